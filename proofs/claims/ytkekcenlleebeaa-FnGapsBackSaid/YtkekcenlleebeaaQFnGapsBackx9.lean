/- Functions of the program as plain Lean functions, and that calls of them come to what these tell. Conditions: those in each law. -/
import Derived.Test.YtkekcenlleebeaaSq
import Derived.Test.YtkekcenlleebeaaDFnGapsBack
import Derived.Test.YtkekcenlleebeaaQFnGapsBackx0
import Derived.Test.YtkekcenlleebeaaQFnGapsBackx1
import Derived.Test.YtkekcenlleebeaaQFnGapsBackx8
namespace Go.Proofs.Ytkekcenlleebeaa.PFnGapsBack
open Go.RowKit Go.Proofs.Ytkekcenlleebeaa.Sq Go.Proofs.YtkekcenlleebeaaW.PrintWords Go.Proofs.YtkekcenlleebeaaW.PrintLast Go.Proofs.YtkekcenlleebeaaW.PrintMore
attribute [local go_sem] max2_int min2_int max_two min_two max_three min_three max_four min_four   -- for this text's walks alone
set_option linter.unusedVariables false
set_option linter.unusedSimpArgs false

/-! ### impl_GapsMove: function 34 -/
theorem impl_GapsMove.mono_l : ∀ k, (∀ y0 y1 y2 y3 y4 y5, LeO (impl_GapsMove.j0 k y0 y1 y2 y3 y4 y5) (impl_GapsMove.j0 (k + 1) y0 y1 y2 y3 y4 y5)) ∧ (∀ y0 y1 y2 y3 y4 y5 y6 y7, LeO (impl_GapsMove.l0 k y0 y1 y2 y3 y4 y5 y6 y7) (impl_GapsMove.l0 (k + 1) y0 y1 y2 y3 y4 y5 y6 y7))
  | 0 => ⟨fun _ _ _ _ _ _ r h => by simp [impl_GapsMove.j0] at h, fun _ _ _ _ _ _ _ _ r h => by simp [impl_GapsMove.l0] at h⟩
  | k + 1 => by
    obtain ⟨ih0, ih1⟩ := impl_GapsMove.mono_l k
    refine ⟨?_, ?_⟩
    · intro y0 y1 y2 y3 y4 y5
      unfold impl_GapsMove.j0
      repeat' first
      | (with_reducible exact ih0 _ _ _ _ _ _)
      | (with_reducible exact ih1 _ _ _ _ _ _ _ _)
      | (with_reducible exact impl_GapsForget.mono _ _ _ _)
      | (with_reducible exact impl_GapsOk.mono _ _ _)
      | (with_reducible exact LeO.refl _)
      | (with_reducible exact LeO.none _)
      | (with_reducible refine LeO.ite ?_ ?_)
      | (with_reducible refine LeO.bind ?_ (fun _ => ?_))
      | exact ih0 _ _ _ _ _ _
      | exact ih1 _ _ _ _ _ _ _ _
      | exact impl_GapsForget.mono _ _ _ _
      | exact impl_GapsOk.mono _ _ _
      | exact LeO.none _
      | refine LeO.ite ?_ ?_
      | refine LeO.bind ?_ (fun _ => ?_)
    · intro y0 y1 y2 y3 y4 y5 y6 y7
      unfold impl_GapsMove.l0
      repeat' first
      | (with_reducible exact ih0 _ _ _ _ _ _)
      | (with_reducible exact ih1 _ _ _ _ _ _ _ _)
      | (with_reducible exact impl_GapsForget.mono _ _ _ _)
      | (with_reducible exact impl_GapsOk.mono _ _ _)
      | (with_reducible exact LeO.refl _)
      | (with_reducible exact LeO.none _)
      | (with_reducible refine LeO.ite ?_ ?_)
      | (with_reducible refine LeO.bind ?_ (fun _ => ?_))
      | exact ih0 _ _ _ _ _ _
      | exact ih1 _ _ _ _ _ _ _ _
      | exact impl_GapsForget.mono _ _ _ _
      | exact impl_GapsOk.mono _ _ _
      | exact LeO.none _
      | refine LeO.ite ?_ ?_
      | refine LeO.bind ?_ (fun _ => ?_)
theorem impl_GapsMove.mono : ∀ a0 a1 a2 a3 a4 k, LeO (impl_GapsMove.f k a0 a1 a2 a3 a4) (impl_GapsMove.f (k + 1) a0 a1 a2 a3 a4) := by
  intro a0 a1 a2 a3 a4 k
  obtain ⟨ih0, ih1⟩ := impl_GapsMove.mono_l k
  unfold impl_GapsMove.f
  repeat' first
      | (with_reducible exact ih0 _ _ _ _ _ _)
      | (with_reducible exact ih1 _ _ _ _ _ _ _ _)
      | (with_reducible exact impl_GapsForget.mono _ _ _ _)
      | (with_reducible exact impl_GapsOk.mono _ _ _)
      | (with_reducible exact LeO.refl _)
      | (with_reducible exact LeO.none _)
      | (with_reducible refine LeO.ite ?_ ?_)
      | (with_reducible refine LeO.bind ?_ (fun _ => ?_))
      | exact ih0 _ _ _ _ _ _
      | exact ih1 _ _ _ _ _ _ _ _
      | exact impl_GapsForget.mono _ _ _ _
      | exact impl_GapsOk.mono _ _ _
      | exact LeO.none _
      | refine LeO.ite ?_ ?_
      | refine LeO.bind ?_ (fun _ => ?_)
def impl_GapsMove.T5 : Bool × List (List Nat × List Nat) := (true, [([], []), ([0], [0]), ([], []), ([], []), ([], []), ([2, 3, 4], [2, 3, 4]), ([], []), ([1, 5, 0, 1, 2, 3, 4, 5, 6], [1, 5]), ([7, 6, 5, 0, 1, 2, 3, 4, 5, 6], [6, 7])])
def impl_GapsMove.B5 : List Nat := [0, 1, 0, 0, 0, 28, 0, 127, 255]
theorem impl_GapsMove.tab5 : rtab .any (opsOf Try.f34 5) = impl_GapsMove.T5 := by kernel_rfl
theorem impl_GapsMove.bits5 : waitsOk impl_GapsMove.T5.2 impl_GapsMove.B5 = true := by kernel_rfl
def impl_GapsMove.T6 : Bool × List (List Nat × List Nat) := (true, [([], []), ([0], [0]), ([], []), ([], []), ([], []), ([2, 3, 4], [2, 3, 4]), ([], []), ([6], [6]), ([1, 5, 0, 1, 2, 3, 4, 5, 6, 7], [1, 5]), ([8, 7, 5, 0, 1, 2, 3, 4, 5, 6, 7], [7, 8])])
def impl_GapsMove.B6 : List Nat := [0, 1, 0, 0, 0, 28, 0, 64, 255, 511]
theorem impl_GapsMove.tab6 : rtab .any (opsOf Try.f34 6) = impl_GapsMove.T6 := by kernel_rfl
theorem impl_GapsMove.bits6 : waitsOk impl_GapsMove.T6.2 impl_GapsMove.B6 = true := by kernel_rfl
def impl_GapsMove.T13 : Bool × List (List Nat × List Nat) := (true, [([], []), ([0], [0]), ([], []), ([], []), ([], []), ([2, 3, 4], [2, 3, 4]), ([], []), ([6], [6]), ([], []), ([], []), ([], []), ([8, 9, 10, 5], [8, 9, 10]), ([7, 11], [7, 11]), ([12], [12]), ([], []), ([13, 14, 11], [13, 14]), ([15], [15]), ([1, 5, 0, 1, 2, 3, 4, 5, 6, 7, 8, 9, 10, 11, 12, 13, 14, 15, 16], [1, 5]), ([17, 16, 15, 0, 1, 2, 3, 4, 5, 6, 7, 8, 9, 10, 11, 12, 13, 14, 15, 16], [16, 17])])
def impl_GapsMove.B13 : List Nat := [0, 1, 0, 0, 0, 28, 0, 64, 0, 0, 0, 1852, 4092, 8188, 0, 32764, 65532, 131071, 262143]
theorem impl_GapsMove.tab13 : rtab .any (opsOf Try.f34 13) = impl_GapsMove.T13 := by kernel_rfl
theorem impl_GapsMove.bits13 : waitsOk impl_GapsMove.T13.2 impl_GapsMove.B13 = true := by kernel_rfl
def impl_GapsMove.T14 : Bool × List (List Nat × List Nat) := (true, [([], []), ([0], [0]), ([], []), ([], []), ([], []), ([2, 3, 4], [2, 3, 4]), ([], []), ([6], [6]), ([], []), ([], []), ([], []), ([8, 9, 10, 5], [8, 9, 10]), ([7, 11], [7, 11]), ([12], [12]), ([], []), ([14], [14]), ([13, 15, 11], [13, 15]), ([16], [16]), ([1, 5, 0, 1, 2, 3, 4, 5, 6, 7, 8, 9, 10, 11, 12, 13, 14, 15, 16, 17], [1, 5]), ([18, 17, 16, 0, 1, 2, 3, 4, 5, 6, 7, 8, 9, 10, 11, 12, 13, 14, 15, 16, 17], [17, 18])])
def impl_GapsMove.B14 : List Nat := [0, 1, 0, 0, 0, 28, 0, 64, 0, 0, 0, 1852, 4092, 8188, 0, 16384, 65532, 131068, 262143, 524287]
theorem impl_GapsMove.tab14 : rtab .any (opsOf Try.f34 14) = impl_GapsMove.T14 := by kernel_rfl
theorem impl_GapsMove.bits14 : waitsOk impl_GapsMove.T14.2 impl_GapsMove.B14 = true := by kernel_rfl
set_option maxHeartbeats 8000000 in
set_option maxRecDepth 100000 in
theorem impl_GapsMove.calls (k : Nat) (a0_0 : Int) (A0_1 : Option Addr) (c0_1 : Nat) (l0_1 : List Int) (a1 : Int) (a2 : Int) (a3 : Int) (r1 : Int) (r2 : List Int) (w : World) (hr0_1 : Kd.C (Kd.int .i64) w A0_1 l0_1.length l0_1) (hc0_1 : l0_1.length ≤ c0_1) (h : impl_GapsMove.f k a0_0 l0_1 a1 a2 a3 = some (r1, r2)) :
    Calls Try.prog 34 #[.agg #[.int .i64 a0_0, .slice A0_1 l0_1.length c0_1], .int .i64 a1, .int .i64 a2, .int .i64 a3] w fun e w' => ∃ v1_ : Value, e = .returned (.agg #[.int .i64 r1, v1_]) ∧ Kd.R (Kd.int .i64) 3 w' w.heap.size (fun _ => True) v1_ r2 ∧ Below w.heap.size w w' := by
  have hu41 := Try.underlying41
  have HR0_1 := Aside0.mk hr0_1
  have HC0_1 := Aside0.mk hc0_1
  clear hr0_1 hc0_1
  have HB := Aside0.mk (Below.refl w.heap.size w)
  have H : ((impl_GapsOk.f k a0_0 l0_1).bind fun t294 => (if t294 = true then (if a1 < 1 then (impl_GapsMove.j0 k a1 a2 a3 true a0_0 l0_1) else (if a1 > a0_0 then (impl_GapsMove.j0 k a1 a2 a3 true a0_0 l0_1) else (if a2 < 0 then (impl_GapsMove.j0 k a1 a2 a3 true a0_0 l0_1) else (if a2 > a0_0 then (impl_GapsMove.j0 k a1 a2 a3 true a0_0 l0_1) else (if a3 < (-4294967296) then (impl_GapsMove.j0 k a1 a2 a3 true a0_0 l0_1) else (impl_GapsMove.j0 k a1 a2 a3 (decide (a3 > 4294967296)) a0_0 l0_1)))))) else (impl_GapsMove.j0 k a1 a2 a3 true a0_0 l0_1))) = some (r1, r2) := h
  clear h
  have HC5 := Aside0.mk H
  clear H
  go_enter Try.func34, Try.ntmps34
  go_upto_region 1 with (first | ((with_reducible refine gate_dst (N := 4) rfl ?_); refine sqx 4 #[.int .i64 a0_0, .slice A0_1 l0_1.length c0_1] 41 ?_; intro gb292 hg w6 hbox hb; have BK292 := Aside0.mk (hbox); have GW292 := sqg HB hg; have GE292 := sqg HB hg; replace HB := sqs HB hb; clear hb hbox hg) | ((with_reducible refine gate_dst (N := 8) rfl ?_); refine sqx 8 #[.int .i64 0, .slice none 0 0] 41 ?_; intro gb293 hg w7 hbox hb; have BK293 := Aside0.mk (hbox); have GW293 := sqg HB hg; have GE293 := sqg HB hg; have NB292_293 := sqn BK292 hg; have NB293_292 := sqm BK292 hg; replace BK292 := sqb BK292 hb; replace HB := sqs HB hb; clear hb hbox hg))
  (try simp only [Act.put, List.setIfInBounds_toArray, List.set_cons_zero, List.set_cons_succ])
  go_cut [42] (fun v42 wc => ∃ (kq : Nat) (x42_4 : Bool), v42 = .bool x42_4 ∧ Aside0 (impl_GapsMove.j0 kq a1 a2 a3 x42_4 a0_0 l0_1 = some (r1, r2)) ∧ Aside0 (kq ≤ k) ∧ Aside0 (wc.heap[gb292]? = some (.cells #[.int .i64 a0_0, (.slice A0_1 l0_1.length c0_1)] 41 (0, 0))) ∧ Aside0 (wc.heap[gb293]? = some (.cells #[.int .i64 0, (.slice none 0 0)] 41 (0, 0))) ∧ Aside0 (Below w.heap.size w wc))
  case first =>
    have H := HC5.out
    clear HC5
    replace H := Option.bind_eq_some_iff.mp H
    obtain ⟨t294, A80, H⟩ := H
    replace H : (if t294 = true then (if a1 < 1 then (impl_GapsMove.j0 k a1 a2 a3 true a0_0 l0_1) else (if a1 > a0_0 then (impl_GapsMove.j0 k a1 a2 a3 true a0_0 l0_1) else (if a2 < 0 then (impl_GapsMove.j0 k a1 a2 a3 true a0_0 l0_1) else (if a2 > a0_0 then (impl_GapsMove.j0 k a1 a2 a3 true a0_0 l0_1) else (if a3 < (-4294967296) then (impl_GapsMove.j0 k a1 a2 a3 true a0_0 l0_1) else (impl_GapsMove.j0 k a1 a2 a3 (decide (a3 > 4294967296)) a0_0 l0_1)))))) else (impl_GapsMove.j0 k a1 a2 a3 true a0_0 l0_1)) = some (r1, r2) := H
    have A8 := Aside0.mk A80
    clear A80
    by_cases c9 : t294 = true
    · subst c9
      have H1 : (if a1 < 1 then (impl_GapsMove.j0 k a1 a2 a3 true a0_0 l0_1) else (if a1 > a0_0 then (impl_GapsMove.j0 k a1 a2 a3 true a0_0 l0_1) else (if a2 < 0 then (impl_GapsMove.j0 k a1 a2 a3 true a0_0 l0_1) else (if a2 > a0_0 then (impl_GapsMove.j0 k a1 a2 a3 true a0_0 l0_1) else (if a3 < (-4294967296) then (impl_GapsMove.j0 k a1 a2 a3 true a0_0 l0_1) else (impl_GapsMove.j0 k a1 a2 a3 (decide (a3 > 4294967296)) a0_0 l0_1)))))) = some (r1, r2) := by rw [if_pos rfl] at H; exact H
      clear H
      have H := H1
      clear H1
      by_cases c10 : a1 < 1
      · rw [if_pos c10] at H
        have c10b0 : decide (a1 < 1) = true := decide_eq_true c10
        clear c10
        (first | rw [c10b0] | (simp only [i64_w, i32_w]; rw [c10b0]) | skip)
        have H' := Aside0.mk H
        clear H
        have hnb11 := NB292_293.out
        have hnc11 := NB293_292.out
        obtain ⟨hcz12_0, hcz12_1, hfz12_0, hfz12_1⟩ := sqc2 BK292
        go_wp2_with (first | ((with_reducible refine gate_callee (f := 31) rfl ?_); refine sqL (some 13) Try.func31 #[.agg #[.int .i64 a0_0, .slice A0_1 l0_1.length c0_1]] ?_; (with_reducible refine (impl_GapsOk.calls k a0_0 _ _ l0_1 true _ ?side1 ?side2 A8.out).mono ?_); (case side1 => repeat (first | exact (Kd.C_below HR0_1.out HB.out) | (with_reducible refine Kd.C_alloc ?_ _) | (with_reducible refine Kd.C_drewN ?_ _) | (with_reducible refine Kd.C_drew ?_))); (case side2 => exact HC0_1.out); rintro e w13 ⟨rfl, hb⟩; refine ⟨_, rfl, ?_⟩; replace BK292 := sqb BK292 hb; replace BK293 := sqb BK293 hb; replace HB := sqs HB hb; (try clear hb)))
        go_meet
        case rel => exact ⟨_, (true), (by first | rfl | (simp; done) | (simp [*]; done)), H', ⟨by first | omega | exact Nat.le_refl _⟩, sqk BK292, sqk BK293, sqh HB⟩
      · rw [if_neg c10] at H
        have c10b0 : decide (a1 < 1) = false := decide_eq_false c10
        clear c10
        (first | rw [c10b0] | (simp only [i64_w, i32_w]; rw [c10b0]) | skip)
        by_cases c14 : a1 > a0_0
        · rw [if_pos c14] at H
          have c14b0 : decide (a0_0 < a1) = true := decide_eq_true c14
          clear c14
          have H' := Aside0.mk H
          clear H
          have hnb15 := NB292_293.out
          have hnc15 := NB293_292.out
          obtain ⟨hcz16_0, hcz16_1, hfz16_0, hfz16_1⟩ := sqc2 BK292
          go_wp2_with (first | ((with_reducible refine gate_callee (f := 31) rfl ?_); refine sqL (some 13) Try.func31 #[.agg #[.int .i64 a0_0, .slice A0_1 l0_1.length c0_1]] ?_; (with_reducible refine (impl_GapsOk.calls k a0_0 _ _ l0_1 true _ ?side1 ?side2 A8.out).mono ?_); (case side1 => repeat (first | exact (Kd.C_below HR0_1.out HB.out) | (with_reducible refine Kd.C_alloc ?_ _) | (with_reducible refine Kd.C_drewN ?_ _) | (with_reducible refine Kd.C_drew ?_))); (case side2 => exact HC0_1.out); rintro e w17 ⟨rfl, hb⟩; refine ⟨_, rfl, ?_⟩; replace BK292 := sqb BK292 hb; replace BK293 := sqb BK293 hb; replace HB := sqs HB hb; (try clear hb); obtain ⟨hcz18_0, hcz18_1, hfz18_0, hfz18_1⟩ := sqc2 BK292))
          go_meet
          case rel => exact ⟨_, (true), (by first | rfl | (simp; done) | (simp [*]; done)), H', ⟨by first | omega | exact Nat.le_refl _⟩, sqk BK292, sqk BK293, sqh HB⟩
        · rw [if_neg c14] at H
          have c14b0 : decide (a0_0 < a1) = false := decide_eq_false c14
          clear c14
          by_cases c19 : a2 < 0
          · rw [if_pos c19] at H
            have c19b0 : decide (a2 < 0) = true := decide_eq_true c19
            clear c19
            have H' := Aside0.mk H
            clear H
            have hnb20 := NB292_293.out
            have hnc20 := NB293_292.out
            obtain ⟨hcz21_0, hcz21_1, hfz21_0, hfz21_1⟩ := sqc2 BK292
            go_wp2_with (first | ((with_reducible refine gate_callee (f := 31) rfl ?_); refine sqL (some 13) Try.func31 #[.agg #[.int .i64 a0_0, .slice A0_1 l0_1.length c0_1]] ?_; (with_reducible refine (impl_GapsOk.calls k a0_0 _ _ l0_1 true _ ?side1 ?side2 A8.out).mono ?_); (case side1 => repeat (first | exact (Kd.C_below HR0_1.out HB.out) | (with_reducible refine Kd.C_alloc ?_ _) | (with_reducible refine Kd.C_drewN ?_ _) | (with_reducible refine Kd.C_drew ?_))); (case side2 => exact HC0_1.out); rintro e w22 ⟨rfl, hb⟩; refine ⟨_, rfl, ?_⟩; replace BK292 := sqb BK292 hb; replace BK293 := sqb BK293 hb; replace HB := sqs HB hb; (try clear hb); obtain ⟨hcz23_0, hcz23_1, hfz23_0, hfz23_1⟩ := sqc2 BK292))
            go_meet
            case rel => exact ⟨_, (true), (by first | rfl | (simp; done) | (simp [*]; done)), H', ⟨by first | omega | exact Nat.le_refl _⟩, sqk BK292, sqk BK293, sqh HB⟩
          · rw [if_neg c19] at H
            have c19b0 : decide (a2 < 0) = false := decide_eq_false c19
            clear c19
            by_cases c24 : a2 > a0_0
            · rw [if_pos c24] at H
              have c24b0 : decide (a0_0 < a2) = true := decide_eq_true c24
              clear c24
              have H' := Aside0.mk H
              clear H
              have hnb25 := NB292_293.out
              have hnc25 := NB293_292.out
              obtain ⟨hcz26_0, hcz26_1, hfz26_0, hfz26_1⟩ := sqc2 BK292
              go_wp2_with (first | ((with_reducible refine gate_callee (f := 31) rfl ?_); refine sqL (some 13) Try.func31 #[.agg #[.int .i64 a0_0, .slice A0_1 l0_1.length c0_1]] ?_; (with_reducible refine (impl_GapsOk.calls k a0_0 _ _ l0_1 true _ ?side1 ?side2 A8.out).mono ?_); (case side1 => repeat (first | exact (Kd.C_below HR0_1.out HB.out) | (with_reducible refine Kd.C_alloc ?_ _) | (with_reducible refine Kd.C_drewN ?_ _) | (with_reducible refine Kd.C_drew ?_))); (case side2 => exact HC0_1.out); rintro e w27 ⟨rfl, hb⟩; refine ⟨_, rfl, ?_⟩; replace BK292 := sqb BK292 hb; replace BK293 := sqb BK293 hb; replace HB := sqs HB hb; (try clear hb); obtain ⟨hcz28_0, hcz28_1, hfz28_0, hfz28_1⟩ := sqc2 BK292))
              go_meet
              case rel => exact ⟨_, (true), (by first | rfl | (simp; done) | (simp [*]; done)), H', ⟨by first | omega | exact Nat.le_refl _⟩, sqk BK292, sqk BK293, sqh HB⟩
            · rw [if_neg c24] at H
              have c24b0 : decide (a0_0 < a2) = false := decide_eq_false c24
              clear c24
              by_cases c29 : a3 < (-4294967296)
              · rw [if_pos c29] at H
                have c29b0 : decide (a3 < (-4294967296)) = true := decide_eq_true c29
                clear c29
                have H' := Aside0.mk H
                clear H
                have hnb30 := NB292_293.out
                have hnc30 := NB293_292.out
                obtain ⟨hcz31_0, hcz31_1, hfz31_0, hfz31_1⟩ := sqc2 BK292
                go_wp2_with (first | ((with_reducible refine gate_callee (f := 31) rfl ?_); refine sqL (some 13) Try.func31 #[.agg #[.int .i64 a0_0, .slice A0_1 l0_1.length c0_1]] ?_; (with_reducible refine (impl_GapsOk.calls k a0_0 _ _ l0_1 true _ ?side1 ?side2 A8.out).mono ?_); (case side1 => repeat (first | exact (Kd.C_below HR0_1.out HB.out) | (with_reducible refine Kd.C_alloc ?_ _) | (with_reducible refine Kd.C_drewN ?_ _) | (with_reducible refine Kd.C_drew ?_))); (case side2 => exact HC0_1.out); rintro e w32 ⟨rfl, hb⟩; refine ⟨_, rfl, ?_⟩; replace BK292 := sqb BK292 hb; replace BK293 := sqb BK293 hb; replace HB := sqs HB hb; (try clear hb); obtain ⟨hcz33_0, hcz33_1, hfz33_0, hfz33_1⟩ := sqc2 BK292))
                go_meet
                case rel => exact ⟨_, (true), (by first | rfl | (simp; done) | (simp [*]; done)), H', ⟨by first | omega | exact Nat.le_refl _⟩, sqk BK292, sqk BK293, sqh HB⟩
              · rw [if_neg c29] at H
                have c29b0 : decide (a3 < (-4294967296)) = false := decide_eq_false c29
                clear c29
                have H' := Aside0.mk H
                clear H
                have hnb34 := NB292_293.out
                have hnc34 := NB293_292.out
                obtain ⟨hcz35_0, hcz35_1, hfz35_0, hfz35_1⟩ := sqc2 BK292
                go_wp2_with (first | ((with_reducible refine gate_callee (f := 31) rfl ?_); refine sqL (some 13) Try.func31 #[.agg #[.int .i64 a0_0, .slice A0_1 l0_1.length c0_1]] ?_; (with_reducible refine (impl_GapsOk.calls k a0_0 _ _ l0_1 true _ ?side1 ?side2 A8.out).mono ?_); (case side1 => repeat (first | exact (Kd.C_below HR0_1.out HB.out) | (with_reducible refine Kd.C_alloc ?_ _) | (with_reducible refine Kd.C_drewN ?_ _) | (with_reducible refine Kd.C_drew ?_))); (case side2 => exact HC0_1.out); rintro e w36 ⟨rfl, hb⟩; refine ⟨_, rfl, ?_⟩; replace BK292 := sqb BK292 hb; replace BK293 := sqb BK293 hb; replace HB := sqs HB hb; (try clear hb); obtain ⟨hcz37_0, hcz37_1, hfz37_0, hfz37_1⟩ := sqc2 BK292))
                go_meet
                case rel => exact ⟨_, (decide (a3 > 4294967296)), (by first | rfl | (simp; done) | (simp [*]; done)), H', ⟨by first | omega | exact Nat.le_refl _⟩, sqk BK292, sqk BK293, sqh HB⟩
    · replace c9 := Bool.eq_false_iff.mpr c9
      subst c9
      have H1 : (impl_GapsMove.j0 k a1 a2 a3 true a0_0 l0_1) = some (r1, r2) := by rw [if_neg (show ¬ (false = true) by decide)] at H; exact H
      clear H
      have H := H1
      clear H1
      have H' := Aside0.mk H
      clear H
      have hnb38 := NB292_293.out
      have hnc38 := NB293_292.out
      obtain ⟨hcz39_0, hcz39_1, hfz39_0, hfz39_1⟩ := sqc2 BK292
      go_wp2_with (first | ((with_reducible refine gate_callee (f := 31) rfl ?_); refine sqL (some 13) Try.func31 #[.agg #[.int .i64 a0_0, .slice A0_1 l0_1.length c0_1]] ?_; (with_reducible refine (impl_GapsOk.calls k a0_0 _ _ l0_1 false _ ?side1 ?side2 A8.out).mono ?_); (case side1 => repeat (first | exact (Kd.C_below HR0_1.out HB.out) | (with_reducible refine Kd.C_alloc ?_ _) | (with_reducible refine Kd.C_drewN ?_ _) | (with_reducible refine Kd.C_drew ?_))); (case side2 => exact HC0_1.out); rintro e w40 ⟨rfl, hb⟩; refine ⟨_, rfl, ?_⟩; replace BK292 := sqb BK292 hb; replace BK293 := sqb BK293 hb; replace HB := sqs HB hb; (try clear hb)))
      go_meet
      case rel => exact ⟨_, (true), (by first | rfl | (simp; done) | (simp [*]; done)), H', ⟨by first | omega | exact Nat.le_refl _⟩, sqk BK292, sqk BK293, sqh HB⟩
  case rest =>
    clear HC5
    obtain ⟨kq, x42_4, rfl, HA, HJ4, BK292, BK293, HB⟩ := hcut
    cases kq with
    | zero => exact absurd HA.out (by simp [impl_GapsMove.j0])
    | succ kj4 =>
      have H := HA.out
      clear HA
      simp only [impl_GapsMove.j0] at H
      by_cases c41 : x42_4 = true
      · subst c41
        have H1 : (some (0, ([] : List Int))) = some (r1, r2) := by rw [if_pos rfl] at H; exact H
        clear H
        have H := H1
        clear H1
        simp only [Option.some.injEq, Prod.mk.injEq] at H
        obtain ⟨rfl, rfl⟩ := H
        have hnb42 := NB293_292.out
        have hnc42 := NB292_293.out
        obtain ⟨hcz43_0, hcz43_1, hfz43_0, hfz43_1⟩ := sqc2 BK293
        go_wp2
        refine bodyPost_ret (results_cell_row rfl _ _ gb293 41 #[.int .i64 0, .slice none 0 0] (0, 0) _ rfl (by refine sqt ?_; refine blk_put (cs := #[.int .i64 0, .slice none 0 0]) ?_ 1 _ rfl; refine sqt ?_; refine blk_put (cs := #[.int .i64 0, .slice none 0 0]) ?_ 0 _ rfl; refine sqt ?_; exact BK293.out) Try.underlying41 rfl (by kernel_rfl)) rfl ?_
        exact ⟨_, by first | rfl | (simp [errW_none, errW_some] <;> rfl) | (simp [*, errW_none, errW_some] <;> rfl), by first | exact Kd.R_nil _ _ _ _ _ | exact Kd.N_nil _ _ _ _ _ | exact Kd.V_nil _ _ _ _ _ | exact Kd.Q_nil _ _ _ _ _ | exact Kd.S_nil _ _ _ _ _, by repeat (first | (with_reducible first | exact HB.out | apply below_alloc | apply pw_below_drewN | apply below_drew1 | refine below_set ?_ GE292.out | refine below_set ?_ GE293.out) | exact HB.out)⟩
      · replace c41 := Bool.eq_false_iff.mpr c41
        subst c41
        have H1 : (if a1 = a2 then ((impl_Gaps_clone.f a0_0 l0_1).bind fun bt304 => (impl_GapsMove.l0 kj4 a1 a3 (wrap64 (a0_0 + 1)) 0 a0_0 l0_1 bt304.1 bt304.2)) else ((impl_GapsForget.f kj4 a0_0 l0_1 a1).bind fun bt295 => ((impl_Gaps_at.f a0_0 l0_1 a1 a2).bind fun t300 => (if 0 ≤ t300 then (if t300 < (bt295.2.length : Int) then ((impl_Gaps_at.f a0_0 l0_1 a2 a1).bind fun t302 => (if 0 ≤ t302 then (if t302 < (bt295.2.length : Int) then (some (bt295.1, ((bt295.2.set (t300 : Int).toNat a3).set (t302 : Int).toNat (wrap64 (-a3))))) else (none)) else (none))) else (none)) else (none))))) = some (r1, r2) := by rw [if_neg (show ¬ (false = true) by decide)] at H; exact H
        clear H
        have H := H1
        clear H1
        by_cases c44 : a1 = a2
        · rw [if_pos c44] at H
          have c44b0 : (a1 == a2) = true := beq_iff_eq.mpr c44
          have c44b1 : (a1 != a2) = false := bne_eq_false_iff_eq.mpr c44
          clear c44
          replace H := Option.bind_eq_some_iff.mp H
          obtain ⟨⟨t304, t305⟩, A450, H⟩ := H
          replace H : (impl_GapsMove.l0 kj4 a1 a3 (wrap64 (a0_0 + 1)) 0 a0_0 l0_1 t304 t305) = some (r1, r2) := H
          have A45 := Aside0.mk A450
          clear A450
          have H' := Aside0.mk H
          clear H
          have hnb46 := NB292_293.out
          have hnc46 := NB293_292.out
          obtain ⟨hcz47_0, hcz47_1, hfz47_0, hfz47_1⟩ := sqc2 BK292
          go_wp2_with (first | ((with_reducible refine gate_callee (f := 111) rfl ?_); refine sqL (some 69) Try.func111 #[.agg #[.int .i64 a0_0, .slice A0_1 l0_1.length c0_1]] ?_; (with_reducible refine (impl_Gaps_clone.calls a0_0 _ _ l0_1 t304 t305 _ ?side1 ?side2 A45.out).mono ?_); (case side1 => repeat (first | exact (Kd.C_below HR0_1.out HB.out) | (with_reducible refine Kd.C_alloc ?_ _) | (with_reducible refine Kd.C_drewN ?_ _) | (with_reducible refine Kd.C_drew ?_))); (case side2 => exact HC0_1.out); rintro e w48 ⟨v306, rfl, ho0, hb⟩; refine ⟨_, rfl, ?_⟩; have HO307 := Aside0.mk (Kd.R_lower ho0 (below_size (by repeat (first | (with_reducible first | exact HB.out | apply below_alloc | apply pw_below_drewN | apply below_drew1 | refine below_set ?_ GE292.out | refine below_set ?_ GE293.out) | exact HB.out)))); replace BK292 := sqb BK292 hb; replace BK293 := sqb BK293 hb; replace HB := sqs HB hb; (try clear hb); (try clear hb2); (try clear hk); (try clear hi); (try clear ho0)) | ((with_reducible refine gate_dst (N := 10) rfl ?_); refine sqx 10 #[.int .i64 0, .slice none 0 0] 41 ?_; intro gb308 hg w49 hbox hb; have n0_ := Aside0.mk (Kd.R_below (by (with_reducible repeat (first | apply Kd.R_alloc | apply Kd.R_drewN | apply Kd.R_drew)); exact HO307.out) hb); have n1_ := sqb BK292 hb; have n2_ := sqb BK293 hb; have n3_ := sqs HB hb; have n4_ := Aside0.mk (hbox); have n5_ := sqg HB hg; have n6_ := sqg HB hg; have n7_ := sqn BK292 hg; have n8_ := sqm BK292 hg; have n9_ := sqn BK293 hg; have n10_ := sqm BK293 hg; clear HO307; clear BK292; clear BK293; clear HB; have HO307 := n0_; have BK292 := n1_; have BK293 := n2_; have HB := n3_; have BK308 := n4_; have GW308 := n5_; have GE308 := n6_; have NB292_308 := n7_; have NB308_292 := n8_; have NB293_308 := n9_; have NB308_293 := n10_; clear n0_ n1_ n2_ n3_ n4_ n5_ n6_ n7_ n8_ n9_ n10_; clear hb hbox hg; have hnb50 := NB308_292.out; have hnc50 := NB292_308.out; have hnb51 := NB308_293.out; have hnc51 := NB293_308.out; obtain ⟨hcz52_0, hcz52_1, hfz52_0, hfz52_1⟩ := sqc2 BK308; obtain ⟨Ao53, co53, eo53⟩ := Kd.R_slice HO307.out; subst eo53; obtain ⟨hcz54_0, hcz54_1, hfz54_0, hfz54_1⟩ := sqc2 BK292))
          go_loopg [73] kj4 (fun kq v73 w' => ∃ (x73_2 : Int) (x309001_2 : List Int) (u309001 : Value), v73 = .int .i64 x73_2 ∧ Aside0 (impl_GapsMove.l0 kq a1 a3 (wrap64 (a0_0 + 1)) x73_2 a0_0 l0_1 t304 x309001_2 = some (r1, r2)) ∧ Aside0 (kq ≤ kj4) ∧ Aside0 (Kd.R (Kd.int .i64) 3 w' w.heap.size (fun _ => True) u309001 x309001_2) ∧ Aside0 (w'.heap[gb292]? = some (.cells #[.int .i64 a0_0, (.slice A0_1 l0_1.length c0_1)] 41 (0, 0))) ∧ Aside0 (w'.heap[gb293]? = some (.cells #[.int .i64 0, (.slice none 0 0)] 41 (0, 0))) ∧ Aside0 (w'.heap[gb308]? = some (.cells #[.int .i64 t304, u309001] 41 (0, 0))) ∧ Aside0 (Below w.heap.size w w'))
          case atStart => exact ⟨(0), (t305), (.slice Ao53 t305.length co53), (by first | rfl | (simp; done) | (simp [*]; done)), H', ⟨Nat.le_refl _⟩, ⟨by (with_reducible repeat (first | apply Kd.R_alloc | apply Kd.R_drewN | apply Kd.R_drew)); exact Kd.R_mono (Kd.R_far (p := ⟨gb308, 1, none⟩) (Kd.R_far (p := ⟨gb308, 0, none⟩) (Kd.R_types HO307.out BK308.out (by decide)) (fun _ hk => hk.2) (.int .i64 t304)) (fun _ hk => hk.2) (.slice Ao53 t305.length co53)) (fun _ hk => trivial)⟩, ⟨by refine sqt ?_; refine blk_far ?_ NB292_308.out _; refine sqt ?_; refine blk_far ?_ NB292_308.out _; refine sqt ?_; exact BK292.out⟩, ⟨by refine sqt ?_; refine blk_far ?_ NB293_308.out _; refine sqt ?_; refine blk_far ?_ NB293_308.out _; refine sqt ?_; exact BK293.out⟩, ⟨by refine sqt ?_; refine blk_put (cs := #[.int .i64 t304, .slice none 0 0]) ?_ 1 _ rfl; refine sqt ?_; refine blk_put (cs := #[.int .i64 0, .slice none 0 0]) ?_ 0 _ rfl; refine sqt ?_; exact BK308.out⟩, sqh HB⟩
          case round =>
            clear H'
            try clear c1
            try clear c2
            try clear p2
            try clear c3
            try clear c4
            try clear c5
            try clear p6
            try clear c9
            try clear c10
            try clear c10b0
            try clear c11
            try clear c14
            try clear c14b0
            try clear c15
            try clear c19
            try clear c19b0
            try clear c20
            try clear c24
            try clear c24b0
            try clear c25
            try clear c29
            try clear c29b0
            try clear c30
            try clear c31
            try clear c34
            try clear c38
            try clear c41
            try clear c42
            try clear c44
            try clear c44b0
            try clear c44b1
            try clear c46
            try clear c50
            try clear c51
            try clear hcz12_0
            try clear hcz12_1
            try clear hcz16_0
            try clear hcz16_1
            try clear hcz18_0
            try clear hcz18_1
            try clear hcz21_0
            try clear hcz21_1
            try clear hcz23_0
            try clear hcz23_1
            try clear hcz26_0
            try clear hcz26_1
            try clear hcz28_0
            try clear hcz28_1
            try clear hcz31_0
            try clear hcz31_1
            try clear hcz33_0
            try clear hcz33_1
            try clear hcz35_0
            try clear hcz35_1
            try clear hcz37_0
            try clear hcz37_1
            try clear hcz39_0
            try clear hcz39_1
            try clear hcz43_0
            try clear hcz43_1
            try clear hcz47_0
            try clear hcz47_1
            try clear hcz52_0
            try clear hcz52_1
            try clear hcz54_0
            try clear hcz54_1
            try clear hfz12_0
            try clear hfz12_1
            try clear hfz16_0
            try clear hfz16_1
            try clear hfz18_0
            try clear hfz18_1
            try clear hfz21_0
            try clear hfz21_1
            try clear hfz23_0
            try clear hfz23_1
            try clear hfz26_0
            try clear hfz26_1
            try clear hfz28_0
            try clear hfz28_1
            try clear hfz31_0
            try clear hfz31_1
            try clear hfz33_0
            try clear hfz33_1
            try clear hfz35_0
            try clear hfz35_1
            try clear hfz37_0
            try clear hfz37_1
            try clear hfz39_0
            try clear hfz39_1
            try clear hfz43_0
            try clear hfz43_1
            try clear hfz47_0
            try clear hfz47_1
            try clear hfz52_0
            try clear hfz52_1
            try clear hfz54_0
            try clear hfz54_1
            try clear p2
            obtain ⟨x73_2, x309001_2, u309001, rfl, HA, HK2, HO_309001, BK292, BK293, BK308, HB⟩ := hrel
            cases gk with
            | zero => exact absurd HA.out (by simp [impl_GapsMove.l0])
            | succ k2 =>
              have H := HA.out
              clear HA
              simp only [impl_GapsMove.l0] at H
              by_cases c55 : x73_2 < (wrap64 (a0_0 + 1))
              · rw [if_pos c55] at H
                have c55b0 : decide (x73_2 < (wrap64 (a0_0 + 1))) = true := decide_eq_true c55
                clear c55
                by_cases c56 : x73_2 = a1
                · rw [if_pos c56] at H
                  have c56b0 : (x73_2 == a1) = true := beq_iff_eq.mpr c56
                  have c56b1 : (x73_2 != a1) = false := bne_eq_false_iff_eq.mpr c56
                  clear c56
                  have H' := Aside0.mk H
                  clear H
                  go_wp2
                  go_roundg k2
                  case measure => have := HJ4.out; have := HK2.out; omega
                  case rel => exact ⟨(wrap64 (x73_2 + 1)), (x309001_2), (u309001), (by first | rfl | (simp; done) | (simp [*]; done)), H', ⟨by have := HJ4.out; have := HK2.out; omega⟩, ⟨by (with_reducible repeat (first | apply Kd.R_alloc | apply Kd.R_drewN | apply Kd.R_drew)); exact HO_309001.out⟩, sqk BK292, sqk BK293, sqk BK308, sqh HB⟩
                · rw [if_neg c56] at H
                  have c56b0 : (x73_2 == a1) = false := beq_eq_false_iff_ne.mpr c56
                  have c56b1 : (x73_2 != a1) = true := bne_iff_ne.mpr c56
                  replace H := Option.bind_eq_some_iff.mp H
                  obtain ⟨t309, A570, H⟩ := H
                  replace H : ((impl_Gaps_at.f a0_0 l0_1 a1 x73_2).bind fun t310 => (if 0 ≤ t310 then (if t310 < (l0_1.length : Int) then ((impl_gapsTogether.f (rd l0_1 t310) a3).bind fun t312 => (if 0 ≤ t309 then (if t309 < (x309001_2.length : Int) then ((impl_Gaps_at.f a0_0 l0_1 x73_2 a1).bind fun t314 => ((impl_Gaps_at.f a0_0 l0_1 x73_2 a1).bind fun t315 => (if 0 ≤ t315 then (if t315 < (l0_1.length : Int) then ((impl_gapsTogether.f (rd l0_1 t315) (wrap64 (-a3))).bind fun t317 => (if 0 ≤ t314 then (if t314 < (x309001_2.length : Int) then (impl_GapsMove.l0 k2 a1 a3 (wrap64 (a0_0 + 1)) (wrap64 (x73_2 + 1)) a0_0 l0_1 t304 ((x309001_2.set (t309 : Int).toNat (mx t312 (-1099511627776))).set (t314 : Int).toNat (mx t317 (-1099511627776)))) else (none)) else (none))) else (none)) else (none)))) else (none)) else (none))) else (none)) else (none))) = some (r1, r2) := H
                  have A57 := Aside0.mk A570
                  clear A570
                  replace H := Option.bind_eq_some_iff.mp H
                  obtain ⟨t310, A580, H⟩ := H
                  replace H : (if 0 ≤ t310 then (if t310 < (l0_1.length : Int) then ((impl_gapsTogether.f (rd l0_1 t310) a3).bind fun t312 => (if 0 ≤ t309 then (if t309 < (x309001_2.length : Int) then ((impl_Gaps_at.f a0_0 l0_1 x73_2 a1).bind fun t314 => ((impl_Gaps_at.f a0_0 l0_1 x73_2 a1).bind fun t315 => (if 0 ≤ t315 then (if t315 < (l0_1.length : Int) then ((impl_gapsTogether.f (rd l0_1 t315) (wrap64 (-a3))).bind fun t317 => (if 0 ≤ t314 then (if t314 < (x309001_2.length : Int) then (impl_GapsMove.l0 k2 a1 a3 (wrap64 (a0_0 + 1)) (wrap64 (x73_2 + 1)) a0_0 l0_1 t304 ((x309001_2.set (t309 : Int).toNat (mx t312 (-1099511627776))).set (t314 : Int).toNat (mx t317 (-1099511627776)))) else (none)) else (none))) else (none)) else (none)))) else (none)) else (none))) else (none)) else (none)) = some (r1, r2) := H
                  have A58 := Aside0.mk A580
                  clear A580
                  by_cases c59 : 0 ≤ t310
                  · rw [if_pos c59] at H
                    have c59b0 : decide (0 ≤ t310) = true := decide_eq_true c59
                    clear c59
                    by_cases c60 : t310 < (l0_1.length : Int)
                    · rw [if_pos c60] at H
                      have c60b0 : decide (t310 < (l0_1.length : Int)) = true := decide_eq_true c60
                      clear c60
                      replace H := Option.bind_eq_some_iff.mp H
                      obtain ⟨t312, A610, H⟩ := H
                      replace H : (if 0 ≤ t309 then (if t309 < (x309001_2.length : Int) then ((impl_Gaps_at.f a0_0 l0_1 x73_2 a1).bind fun t314 => ((impl_Gaps_at.f a0_0 l0_1 x73_2 a1).bind fun t315 => (if 0 ≤ t315 then (if t315 < (l0_1.length : Int) then ((impl_gapsTogether.f (rd l0_1 t315) (wrap64 (-a3))).bind fun t317 => (if 0 ≤ t314 then (if t314 < (x309001_2.length : Int) then (impl_GapsMove.l0 k2 a1 a3 (wrap64 (a0_0 + 1)) (wrap64 (x73_2 + 1)) a0_0 l0_1 t304 ((x309001_2.set (t309 : Int).toNat (mx t312 (-1099511627776))).set (t314 : Int).toNat (mx t317 (-1099511627776)))) else (none)) else (none))) else (none)) else (none)))) else (none)) else (none)) = some (r1, r2) := H
                      have A61 := Aside0.mk A610
                      clear A610
                      obtain ⟨ji62, hji62⟩ : ∃ j_ : Int, (mx t312 (-1099511627776)) = j_ := ⟨_, rfl⟩
                      replace H : (if 0 ≤ t309 then (if t309 < (x309001_2.length : Int) then ((impl_Gaps_at.f a0_0 l0_1 x73_2 a1).bind fun t314 => ((impl_Gaps_at.f a0_0 l0_1 x73_2 a1).bind fun t315 => (if 0 ≤ t315 then (if t315 < (l0_1.length : Int) then ((impl_gapsTogether.f (rd l0_1 t315) (wrap64 (-a3))).bind fun t317 => (if 0 ≤ t314 then (if t314 < (x309001_2.length : Int) then (impl_GapsMove.l0 k2 a1 a3 (wrap64 (a0_0 + 1)) (wrap64 (x73_2 + 1)) a0_0 l0_1 t304 ((x309001_2.set (t309 : Int).toNat (ji62)).set (t314 : Int).toNat (mx t317 (-1099511627776)))) else (none)) else (none))) else (none)) else (none)))) else (none)) else (none)) = some (r1, r2) := by first | (rw [hji62] at H; exact H) | (simp only [hji62] at H ⊢; exact H)
                      (try rw [hji62] at A57)
                      (try rw [hji62] at A58)
                      (try rw [hji62] at A61)
                      have hji62_ : (if t312 < (-1099511627776) then (-1099511627776) else t312) = ji62 := hji62
                      by_cases c63 : 0 ≤ t309
                      · rw [if_pos c63] at H
                        have c63b0 : decide (0 ≤ t309) = true := decide_eq_true c63
                        clear c63
                        by_cases c64 : t309 < (x309001_2.length : Int)
                        · rw [if_pos c64] at H
                          have c64b0 : decide (t309 < (x309001_2.length : Int)) = true := decide_eq_true c64
                          clear c64
                          obtain ⟨y313, hy313⟩ : ∃ y_ : List Int, y_ = (x309001_2.set (t309 : Int).toNat (ji62)) := ⟨_, rfl⟩
                          replace H : ((impl_Gaps_at.f a0_0 l0_1 x73_2 a1).bind fun t314 => ((impl_Gaps_at.f a0_0 l0_1 x73_2 a1).bind fun t315 => (if 0 ≤ t315 then (if t315 < (l0_1.length : Int) then ((impl_gapsTogether.f (rd l0_1 t315) (wrap64 (-a3))).bind fun t317 => (if 0 ≤ t314 then (if t314 < (x309001_2.length : Int) then (impl_GapsMove.l0 k2 a1 a3 (wrap64 (a0_0 + 1)) (wrap64 (x73_2 + 1)) a0_0 l0_1 t304 (y313.set (t314 : Int).toNat (mx t317 (-1099511627776)))) else (none)) else (none))) else (none)) else (none)))) = some (r1, r2) := by first | (rw [hy313]; with_reducible exact H) | (have H2_ := (Option.bind_some _ _).symm.trans H; rw [hy313]; with_reducible exact H2_) | (have H2_ := (Option.bind_some _ _).symm.trans H; with_reducible exact H2_) | with_reducible exact H | (rw [hy313]; exact H) | exact H
                          have Ny313 := Aside0.mk hy313
                          clear hy313
                          replace H := Option.bind_eq_some_iff.mp H
                          obtain ⟨t314, A660, H⟩ := H
                          replace H : ((impl_Gaps_at.f a0_0 l0_1 x73_2 a1).bind fun t315 => (if 0 ≤ t315 then (if t315 < (l0_1.length : Int) then ((impl_gapsTogether.f (rd l0_1 t315) (wrap64 (-a3))).bind fun t317 => (if 0 ≤ t314 then (if t314 < (x309001_2.length : Int) then (impl_GapsMove.l0 k2 a1 a3 (wrap64 (a0_0 + 1)) (wrap64 (x73_2 + 1)) a0_0 l0_1 t304 (y313.set (t314 : Int).toNat (mx t317 (-1099511627776)))) else (none)) else (none))) else (none)) else (none))) = some (r1, r2) := H
                          have A66 := Aside0.mk A660
                          clear A660
                          replace H := Option.bind_eq_some_iff.mp H
                          obtain ⟨t315, A670, H⟩ := H
                          replace H : (if 0 ≤ t315 then (if t315 < (l0_1.length : Int) then ((impl_gapsTogether.f (rd l0_1 t315) (wrap64 (-a3))).bind fun t317 => (if 0 ≤ t314 then (if t314 < (x309001_2.length : Int) then (impl_GapsMove.l0 k2 a1 a3 (wrap64 (a0_0 + 1)) (wrap64 (x73_2 + 1)) a0_0 l0_1 t304 (y313.set (t314 : Int).toNat (mx t317 (-1099511627776)))) else (none)) else (none))) else (none)) else (none)) = some (r1, r2) := H
                          have A67 := Aside0.mk A670
                          clear A670
                          by_cases c68 : 0 ≤ t315
                          · rw [if_pos c68] at H
                            have c68b0 : decide (0 ≤ t315) = true := decide_eq_true c68
                            clear c68
                            by_cases c69 : t315 < (l0_1.length : Int)
                            · rw [if_pos c69] at H
                              have c69b0 : decide (t315 < (l0_1.length : Int)) = true := decide_eq_true c69
                              clear c69
                              replace H := Option.bind_eq_some_iff.mp H
                              obtain ⟨t317, A700, H⟩ := H
                              replace H : (if 0 ≤ t314 then (if t314 < (x309001_2.length : Int) then (impl_GapsMove.l0 k2 a1 a3 (wrap64 (a0_0 + 1)) (wrap64 (x73_2 + 1)) a0_0 l0_1 t304 (y313.set (t314 : Int).toNat (mx t317 (-1099511627776)))) else (none)) else (none)) = some (r1, r2) := H
                              have A70 := Aside0.mk A700
                              clear A700
                              obtain ⟨ji71, hji71⟩ : ∃ j_ : Int, (mx t317 (-1099511627776)) = j_ := ⟨_, rfl⟩
                              replace H : (if 0 ≤ t314 then (if t314 < (x309001_2.length : Int) then (impl_GapsMove.l0 k2 a1 a3 (wrap64 (a0_0 + 1)) (wrap64 (x73_2 + 1)) a0_0 l0_1 t304 (y313.set (t314 : Int).toNat (ji71))) else (none)) else (none)) = some (r1, r2) := by first | (rw [hji71] at H; exact H) | (simp only [hji71] at H ⊢; exact H)
                              (try rw [hji71] at A57)
                              (try rw [hji71] at A58)
                              (try rw [hji71] at A61)
                              (try rw [hji71] at A66)
                              (try rw [hji71] at A67)
                              (try rw [hji71] at A70)
                              have hji71_ : (if t317 < (-1099511627776) then (-1099511627776) else t317) = ji71 := hji71
                              by_cases c72 : 0 ≤ t314
                              · rw [if_pos c72] at H
                                have c72b0 : decide (0 ≤ t314) = true := decide_eq_true c72
                                clear c72
                                by_cases c73 : t314 < (x309001_2.length : Int)
                                · rw [if_pos c73] at H
                                  have c73b0 : decide (t314 < (x309001_2.length : Int)) = true := decide_eq_true c73
                                  clear c73
                                  obtain ⟨y318, hy318⟩ : ∃ y_ : List Int, y_ = (y313.set (t314 : Int).toNat (ji71)) := ⟨_, rfl⟩
                                  replace H : (impl_GapsMove.l0 k2 a1 a3 (wrap64 (a0_0 + 1)) (wrap64 (x73_2 + 1)) a0_0 l0_1 t304 y318) = some (r1, r2) := by first | (rw [hy318]; with_reducible exact H) | (have H2_ := (Option.bind_some _ _).symm.trans H; rw [hy318]; with_reducible exact H2_) | (have H2_ := (Option.bind_some _ _).symm.trans H; with_reducible exact H2_) | with_reducible exact H | (rw [hy318]; exact H) | exact H
                                  have Ny318 := Aside0.mk hy318
                                  clear hy318
                                  have H' := Aside0.mk H
                                  clear H
                                  try go_wp2
                                  replace HO_309001 := Aside0.mk (Kd.R_drew HO_309001.out)
                                  replace BK292 := Aside0.mk (blk_drew BK292.out)
                                  replace BK293 := Aside0.mk (blk_drew BK293.out)
                                  replace BK308 := Aside0.mk (blk_drew BK308.out)
                                  replace HB := Aside0.mk (below_drew1 HB.out)
                                  have p311 : 0 ≤ (t310 : Int) := of_decide_eq_true (by first | (with_reducible assumption) | assumption)
                                  have q311 : t310 < (l0_1.length : Int) := of_decide_eq_true (by first | (with_reducible assumption) | assumption)
                                  obtain ⟨ad311, e311, hx311_0⟩ := Kd.at_int HR0_1.out t310 p311 q311
                                  have hw311_0 := hx311_0
                                  cases e311
                                  replace hx311_0 := (HB.out.cell (World.block_lt_of_cell? w _ hx311_0)).trans hx311_0
                                  replace p311 := eq_true p311
                                  replace q311 := eq_true q311
                                  refine start_ (n := 19) (S := fun w' => w'.cell? ⟨gb308, 0, none⟩ = some (.int .i64 t304) ∧ w'.cell? ⟨gb308, 1, none⟩ = some (u309001) ∧ w'.cell? ⟨gb292, 0, none⟩ = some (.int .i64 a0_0) ∧ w'.cell? ⟨gb292, 1, none⟩ = some (.slice (some ad311) l0_1.length c0_1) ∧ w'.cell? (ad311.add (t310).toNat) = some (.int .i64 (rd l0_1 t310))) (ds := [18]) #[false, false, false, false, false, false, false, false, false, false, false, false, false, false, false, false, false, false, false] (by kernel_rfl) rfl rfl ⟨(blk_cell BK308.out 0).trans rfl, (blk_cell BK308.out 1).trans rfl, (blk_cell BK292.out 0).trans rfl, (blk_cell BK292.out 1).trans rfl, ((HB.out.cell (World.block_lt_of_cell? w _ hw311_0)).trans hw311_0)⟩ (fun hHeld => ?_); refine with_tabW impl_GapsMove.tab13 impl_GapsMove.bits13 (fun HT_ HW_ => ?_)
                                  generalize wr.drew = w75 at HO_309001 BK292 BK293 BK308 HB hx311_0 hHeld ⊢
                                  refine sqp HT_ 0 79 ?_
                                  refine sqp HT_ 3 82 ?_
                                  refine sqp HT_ 4 83 ?_
                                  refine sqp HT_ 6 85 ?_
                                  refine sqp HT_ 9 88 ?_
                                  refine sqp HT_ 10 89 ?_
                                  refine sqp HT_ 14 93 ?_
                                  refine sqw HT_ HW_ 1 80 hHeld ?_
                                  refine sqw HT_ HW_ 2 81 hHeld ?_
                                  refine sqw HT_ HW_ 7 86 hHeld ?_
                                  refine sqw HT_ HW_ 8 87 hHeld ?_
                                  refine sqo HT_ 5 84 (fun K hK => ?_)
                                  refine sqG Try.func118 #[.agg #[.int .i64 a0_0, .slice (some ad311) l0_1.length c0_1], .int .i64 a1, .int .i64 x73_2] ?_
                                  with_reducible refine (impl_Gaps_at.calls a0_0 _ _ l0_1 a1 x73_2 t309 _ ?side1 ?side2 A57.out).mono ?_
                                  (case side1 => repeat (first | exact (Kd.C_below HR0_1.out HB.out) | (with_reducible refine Kd.C_alloc ?_ _) | (with_reducible refine Kd.C_drewN ?_ _) | (with_reducible refine Kd.C_drew ?_)))
                                  (case side2 => exact HC0_1.out)
                                  rintro e w76 ⟨rfl, hb⟩
                                  refine ⟨_, rfl, ?_⟩
                                  have n0_ := Aside0.mk (Kd.R_below (by (with_reducible repeat (first | apply Kd.R_alloc | apply Kd.R_drewN | apply Kd.R_drew)); exact HO_309001.out) hb)
                                  have n1_ := sqb BK292 hb
                                  have n2_ := sqb BK293 hb
                                  have n3_ := sqb BK308 hb
                                  have n4_ := sqs HB hb
                                  clear HO_309001
                                  clear BK292
                                  clear BK293
                                  clear BK308
                                  clear HB
                                  have HO_309001 := n0_
                                  have BK292 := n1_
                                  have BK293 := n2_
                                  have BK308 := n3_
                                  have HB := n4_
                                  clear n0_ n1_ n2_ n3_ n4_
                                  (try clear hb)
                                  refine hK.out _ _ ⟨(blk_cell BK308.out 0).trans rfl, (blk_cell BK308.out 1).trans rfl, (blk_cell BK292.out 0).trans rfl, (blk_cell BK292.out 1).trans rfl, ((HB.out.cell (World.block_lt_of_cell? w _ hw311_0)).trans hw311_0)⟩ (fun hHeld => ?_)
                                  clear hK K
                                  refine sqnm ?_
                                  refine sqo HT_ 11 90 (fun K hK => ?_)
                                  refine sqG Try.func118 #[.agg #[.int .i64 a0_0, .slice (some ad311) l0_1.length c0_1], .int .i64 a1, .int .i64 x73_2] ?_
                                  with_reducible refine (impl_Gaps_at.calls a0_0 _ _ l0_1 a1 x73_2 t310 _ ?side1 ?side2 A58.out).mono ?_
                                  (case side1 => repeat (first | exact (Kd.C_below HR0_1.out HB.out) | (with_reducible refine Kd.C_alloc ?_ _) | (with_reducible refine Kd.C_drewN ?_ _) | (with_reducible refine Kd.C_drew ?_)))
                                  (case side2 => exact HC0_1.out)
                                  rintro e w77 ⟨rfl, hb⟩
                                  refine ⟨_, rfl, ?_⟩
                                  have n0_ := Aside0.mk (Kd.R_below (by (with_reducible repeat (first | apply Kd.R_alloc | apply Kd.R_drewN | apply Kd.R_drew)); exact HO_309001.out) hb)
                                  have n1_ := sqb BK292 hb
                                  have n2_ := sqb BK293 hb
                                  have n3_ := sqb BK308 hb
                                  have n4_ := sqs HB hb
                                  clear HO_309001
                                  clear BK292
                                  clear BK293
                                  clear BK308
                                  clear HB
                                  have HO_309001 := n0_
                                  have BK292 := n1_
                                  have BK293 := n2_
                                  have BK308 := n3_
                                  have HB := n4_
                                  clear n0_ n1_ n2_ n3_ n4_
                                  (try clear hb)
                                  refine hK.out _ _ ⟨(blk_cell BK308.out 0).trans rfl, (blk_cell BK308.out 1).trans rfl, (blk_cell BK292.out 0).trans rfl, (blk_cell BK292.out 1).trans rfl, ((HB.out.cell (World.block_lt_of_cell? w _ hw311_0)).trans hw311_0)⟩ (fun hHeld => ?_)
                                  clear hK K
                                  refine sqnm ?_
                                  refine sqp HT_ 12 91 ?_
                                  refine sqw HT_ HW_ 13 92 hHeld ?_
                                  refine sqo HT_ 15 94 (fun K hK => ?_)
                                  refine sqG Try.func112 #[.int .i64 (rd l0_1 t310), .int .i64 a3] ?_
                                  with_reducible refine (impl_gapsTogether.calls (rd l0_1 t310) a3 t312 _ A61.out).mono ?_
                                  rintro e w' ⟨rfl, ⟨nd, rfl⟩⟩
                                  refine ⟨_, rfl, ?_⟩
                                  have p65 : 0 ≤ (t309 : Int) := of_decide_eq_true (by first | (with_reducible assumption) | assumption)
                                  have q65 : (t309 : Int) < ((x309001_2.length : Int) : Int) := of_decide_eq_true (by first | (with_reducible assumption) | assumption)
                                  obtain ⟨go65, co65, eo65, gb65, gl65, cl65, HG65⟩ := Kd.R_form HO_309001.out (by omega)
                                  (first | cases eo65 | (injection eo65 with ea_ en_ ec_; (first | subst ea_ | (injection ea_ with ea_; subst ea_)); subst ec_; clear en_))
                                  have GB65 := Aside0.mk gb65
                                  have GG65 := Aside0.mk HG65
                                  clear gb65 gl65 HG65
                                  obtain ⟨hx65_0, hf65_0⟩ := Kd.R_celln 0 HO_309001.out (t309 : Int) p65 q65
                                  replace p65 := eq_true p65
                                  replace q65 := eq_true q65
                                  have HP78 := Kd.R_putn HO_309001.out (t309 : Int) ji62
                                  rw [← Ny313.out] at HP78
                                  have HQ78 := Aside0.mk HP78
                                  clear HP78
                                  refine hK.out _ _ ⟨(blk_cell BK308.out 0).trans rfl, (blk_cell BK308.out 1).trans rfl, (blk_cell BK292.out 0).trans rfl, (blk_cell BK292.out 1).trans rfl, ((HB.out.cell (World.block_lt_of_cell? w _ hw311_0)).trans hw311_0)⟩ (fun hHeld => ?_)
                                  clear hK K
                                  refine sqnm ?_
                                  refine sqp HT_ 16 95 ?_
                                  refine sqp HT_ 17 96 ?_
                                  refine last_ (i := 18) (N := none) #[true, true, true, true, true, true, true, true, true, true, true, true, true, true, true, true, true, true, true] rfl rfl (one_of HT_.out (by kernel_rfl)) (by decide) (fun K hK => ?_)
                                  refine skip_ (w1 := ?_) (by rfl) rfl ?_ ?_
                                  rotate_left
                                  · go_simp
                                    rfl
                                  refine hK.out _ _ ?_
                                  clear hK K
                                  refine done_ (done_of HT_.out (by kernel_rfl)) ?_
                                  try go_wp2
                                  have n0_ : Aside0 (Kd.R (Kd.int .i64) 3 ((w77.drewN nd).setCell ⟨go65, (t309 : Int).toNat, none⟩ (.int .i64 ji62)) w.heap.size (fun _ => True) (.slice (some ⟨go65, 0, none⟩) x309001_2.length co65) y313) := ⟨by (with_reducible repeat (first | apply Kd.R_alloc | apply Kd.R_drewN | apply Kd.R_drew)); exact HQ78.out⟩
                                  have n1_ : Aside0 (((w77.drewN nd).setCell ⟨go65, (t309 : Int).toNat, none⟩ (.int .i64 ji62)).heap[gb292]? = some (.cells #[.int .i64 a0_0, .slice (some ad311) l0_1.length c0_1] 41 (0, 0))) := ⟨by refine sqt ?_; refine blk_far ?_ (by have h_ := Kd.R_ne HO_309001.out BK292.out (by decide); intro e_; exact h_ (by rw [e_]; rfl)) _; refine sqt ?_; exact BK292.out⟩
                                  have n2_ : Aside0 (((w77.drewN nd).setCell ⟨go65, (t309 : Int).toNat, none⟩ (.int .i64 ji62)).heap[gb293]? = some (.cells #[.int .i64 0, .slice none 0 0] 41 (0, 0))) := ⟨by refine sqt ?_; refine blk_far ?_ (by have h_ := Kd.R_ne HO_309001.out BK293.out (by decide); intro e_; exact h_ (by rw [e_]; rfl)) _; refine sqt ?_; exact BK293.out⟩
                                  have n3_ : Aside0 (((w77.drewN nd).setCell ⟨go65, (t309 : Int).toNat, none⟩ (.int .i64 ji62)).heap[gb308]? = some (.cells #[.int .i64 t304, .slice (some ⟨go65, 0, none⟩) x309001_2.length co65] 41 (0, 0))) := ⟨by refine sqt ?_; refine blk_far ?_ (by have h_ := Kd.R_ne HO_309001.out BK308.out (by decide); intro e_; exact h_ (by rw [e_]; rfl)) _; refine sqt ?_; exact BK308.out⟩
                                  have n4_ : Aside0 (Below w.heap.size w ((w77.drewN nd).setCell ⟨go65, (t309 : Int).toNat, none⟩ (.int .i64 ji62))) := ⟨by repeat (first | (with_reducible first | exact HB.out | apply below_alloc | apply pw_below_drewN | apply below_drew1 | refine below_set ?_ GB65.out | refine below_set ?_ GE292.out | refine below_set ?_ GE293.out | refine below_set ?_ GE308.out) | exact HB.out)⟩
                                  (try clear HO_309001)
                                  (try clear BK292)
                                  (try clear BK293)
                                  (try clear BK308)
                                  (try clear HB)
                                  generalize ((w77.drewN nd).setCell ⟨go65, (t309 : Int).toNat, none⟩ (.int .i64 ji62)) = w79 at n0_ n1_ n2_ n3_ n4_ ⊢
                                  have HO_309001 := n0_
                                  have BK292 := n1_
                                  have BK293 := n2_
                                  have BK308 := n3_
                                  have HB := n4_
                                  clear n0_ n1_ n2_ n3_ n4_
                                  (try (rw [drewN_self w79]; generalize hq_ : World.drewN w79 _ = w79; have n0_ : Aside0 (Kd.R (Kd.int .i64) 3 w79 w.heap.size (fun _ => True) (.slice (some ⟨go65, 0, none⟩) x309001_2.length co65) y313) := ⟨by rw [← hq_]; exact (by (with_reducible repeat (first | apply Kd.R_alloc | apply Kd.R_drewN | apply Kd.R_drew)); exact HO_309001.out)⟩; have n1_ : Aside0 (w79.heap[gb292]? = some (.cells #[.int .i64 a0_0, .slice (some ad311) l0_1.length c0_1] 41 (0, 0))) := ⟨by rw [← hq_]; exact (by refine sqt ?_; exact BK292.out)⟩; have n2_ : Aside0 (w79.heap[gb293]? = some (.cells #[.int .i64 0, .slice none 0 0] 41 (0, 0))) := ⟨by rw [← hq_]; exact (by refine sqt ?_; exact BK293.out)⟩; have n3_ : Aside0 (w79.heap[gb308]? = some (.cells #[.int .i64 t304, .slice (some ⟨go65, 0, none⟩) x309001_2.length co65] 41 (0, 0))) := ⟨by rw [← hq_]; exact (by refine sqt ?_; exact BK308.out)⟩; have n4_ : Aside0 (Below w.heap.size w w79) := ⟨by rw [← hq_]; exact (by repeat (first | (with_reducible first | exact HB.out | apply below_alloc | apply pw_below_drewN | apply below_drew1 | refine below_set ?_ GE292.out | refine below_set ?_ GE293.out | refine below_set ?_ GE308.out) | exact HB.out))⟩; clear HO_309001 BK292 BK293 BK308 HB hq_; have HO_309001 := n0_; have BK292 := n1_; have BK293 := n2_; have BK308 := n3_; have HB := n4_; clear n0_ n1_ n2_ n3_ n4_))
                                  replace HO_309001 := Aside0.mk (Kd.R_drew HO_309001.out)
                                  replace BK292 := Aside0.mk (blk_drew BK292.out)
                                  replace BK293 := Aside0.mk (blk_drew BK293.out)
                                  replace BK308 := Aside0.mk (blk_drew BK308.out)
                                  replace HB := Aside0.mk (below_drew1 HB.out)
                                  have p316 : 0 ≤ (t315 : Int) := of_decide_eq_true (by first | (with_reducible assumption) | assumption)
                                  have q316 : t315 < (l0_1.length : Int) := of_decide_eq_true (by first | (with_reducible assumption) | assumption)
                                  obtain ⟨ad316, e316, hx316_0⟩ := Kd.at_int HR0_1.out t315 p316 q316
                                  have hw316_0 := hx316_0
                                  obtain rfl : ad311 = ad316 := (by injection e316)
                                  replace hx316_0 := (HB.out.cell (World.block_lt_of_cell? w _ hx316_0)).trans hx316_0
                                  replace p316 := eq_true p316
                                  replace q316 := eq_true q316
                                  refine start_ (n := 20) (S := fun w' => w'.cell? ⟨gb308, 0, none⟩ = some (.int .i64 t304) ∧ w'.cell? ⟨gb308, 1, none⟩ = some (.slice (some ⟨go65, 0, none⟩) x309001_2.length co65) ∧ w'.cell? ⟨gb292, 0, none⟩ = some (.int .i64 a0_0) ∧ w'.cell? ⟨gb292, 1, none⟩ = some (.slice (some ad311) l0_1.length c0_1) ∧ w'.cell? (ad311.add (t315).toNat) = some (.int .i64 (rd l0_1 t315))) (ds := [19]) #[false, false, false, false, false, false, false, false, false, false, false, false, false, false, false, false, false, false, false, false] (by kernel_rfl) rfl rfl ⟨(blk_cell BK308.out 0).trans rfl, (blk_cell BK308.out 1).trans rfl, (blk_cell BK292.out 0).trans rfl, (blk_cell BK292.out 1).trans rfl, ((HB.out.cell (World.block_lt_of_cell? w _ hw316_0)).trans hw316_0)⟩ (fun hHeld => ?_); refine with_tabW impl_GapsMove.tab14 impl_GapsMove.bits14 (fun HT_ HW_ => ?_)
                                  generalize w79.drew = w80 at HO_309001 BK292 BK293 BK308 HB HQ78 hx316_0 hHeld ⊢
                                  refine sqp HT_ 0 97 ?_
                                  refine sqp HT_ 3 100 ?_
                                  refine sqp HT_ 4 101 ?_
                                  refine sqp HT_ 6 103 ?_
                                  refine sqp HT_ 9 106 ?_
                                  refine sqp HT_ 10 107 ?_
                                  refine sqp HT_ 14 111 ?_
                                  refine sqp HT_ 15 112 ?_
                                  refine sqw HT_ HW_ 1 98 hHeld ?_
                                  refine sqw HT_ HW_ 2 99 hHeld ?_
                                  refine sqw HT_ HW_ 7 104 hHeld ?_
                                  refine sqw HT_ HW_ 8 105 hHeld ?_
                                  refine sqo HT_ 5 102 (fun K hK => ?_)
                                  refine sqG Try.func118 #[.agg #[.int .i64 a0_0, .slice (some ad311) l0_1.length c0_1], .int .i64 x73_2, .int .i64 a1] ?_
                                  with_reducible refine (impl_Gaps_at.calls a0_0 _ _ l0_1 x73_2 a1 t314 _ ?side1 ?side2 A66.out).mono ?_
                                  (case side1 => repeat (first | exact (Kd.C_below HR0_1.out HB.out) | (with_reducible refine Kd.C_alloc ?_ _) | (with_reducible refine Kd.C_drewN ?_ _) | (with_reducible refine Kd.C_drew ?_)))
                                  (case side2 => exact HC0_1.out)
                                  rintro e w81 ⟨rfl, hb⟩
                                  refine ⟨_, rfl, ?_⟩
                                  have n0_ := Aside0.mk (Kd.R_below (by (with_reducible repeat (first | apply Kd.R_alloc | apply Kd.R_drewN | apply Kd.R_drew)); exact HO_309001.out) hb)
                                  have n1_ := sqb BK292 hb
                                  have n2_ := sqb BK293 hb
                                  have n3_ := sqb BK308 hb
                                  have n4_ := sqs HB hb
                                  clear HO_309001
                                  clear BK292
                                  clear BK293
                                  clear BK308
                                  clear HB
                                  have HO_309001 := n0_
                                  have BK292 := n1_
                                  have BK293 := n2_
                                  have BK308 := n3_
                                  have HB := n4_
                                  clear n0_ n1_ n2_ n3_ n4_
                                  (try clear hb)
                                  refine hK.out _ _ ⟨(blk_cell BK308.out 0).trans rfl, (blk_cell BK308.out 1).trans rfl, (blk_cell BK292.out 0).trans rfl, (blk_cell BK292.out 1).trans rfl, ((HB.out.cell (World.block_lt_of_cell? w _ hw316_0)).trans hw316_0)⟩ (fun hHeld => ?_)
                                  clear hK K
                                  refine sqnm ?_
                                  refine sqo HT_ 11 108 (fun K hK => ?_)
                                  refine sqG Try.func118 #[.agg #[.int .i64 a0_0, .slice (some ad311) l0_1.length c0_1], .int .i64 x73_2, .int .i64 a1] ?_
                                  with_reducible refine (impl_Gaps_at.calls a0_0 _ _ l0_1 x73_2 a1 t315 _ ?side1 ?side2 A67.out).mono ?_
                                  (case side1 => repeat (first | exact (Kd.C_below HR0_1.out HB.out) | (with_reducible refine Kd.C_alloc ?_ _) | (with_reducible refine Kd.C_drewN ?_ _) | (with_reducible refine Kd.C_drew ?_)))
                                  (case side2 => exact HC0_1.out)
                                  rintro e w82 ⟨rfl, hb⟩
                                  refine ⟨_, rfl, ?_⟩
                                  have n0_ := Aside0.mk (Kd.R_below (by (with_reducible repeat (first | apply Kd.R_alloc | apply Kd.R_drewN | apply Kd.R_drew)); exact HO_309001.out) hb)
                                  have n1_ := sqb BK292 hb
                                  have n2_ := sqb BK293 hb
                                  have n3_ := sqb BK308 hb
                                  have n4_ := sqs HB hb
                                  clear HO_309001
                                  clear BK292
                                  clear BK293
                                  clear BK308
                                  clear HB
                                  have HO_309001 := n0_
                                  have BK292 := n1_
                                  have BK293 := n2_
                                  have BK308 := n3_
                                  have HB := n4_
                                  clear n0_ n1_ n2_ n3_ n4_
                                  (try clear hb)
                                  refine hK.out _ _ ⟨(blk_cell BK308.out 0).trans rfl, (blk_cell BK308.out 1).trans rfl, (blk_cell BK292.out 0).trans rfl, (blk_cell BK292.out 1).trans rfl, ((HB.out.cell (World.block_lt_of_cell? w _ hw316_0)).trans hw316_0)⟩ (fun hHeld => ?_)
                                  clear hK K
                                  refine sqnm ?_
                                  refine sqp HT_ 12 109 ?_
                                  refine sqw HT_ HW_ 13 110 hHeld ?_
                                  refine sqo HT_ 16 113 (fun K hK => ?_)
                                  refine sqG Try.func112 #[.int .i64 (rd l0_1 t315), .int .i64 (wrap64 (-a3))] ?_
                                  with_reducible refine (impl_gapsTogether.calls (rd l0_1 t315) (wrap64 (-a3)) t317 _ A70.out).mono ?_
                                  rintro e w' ⟨rfl, ⟨nd, rfl⟩⟩
                                  refine ⟨_, rfl, ?_⟩
                                  have p74 : 0 ≤ (t314 : Int) := of_decide_eq_true (by first | (with_reducible assumption) | assumption)
                                  have q74 : (t314 : Int) < ((x309001_2.length : Int) : Int) := of_decide_eq_true (by first | (with_reducible assumption) | assumption)
                                  obtain ⟨hx74_0, hf74_0⟩ := Kd.R_celln 0 HO_309001.out (t314 : Int) p74 q74
                                  replace p74 := eq_true p74
                                  replace q74 := eq_true q74
                                  have HP83 := Kd.R_putn HO_309001.out (t314 : Int) ji71
                                  rw [← Ny318.out] at HP83
                                  have HQ83 := Aside0.mk HP83
                                  clear HP83
                                  refine hK.out _ _ ⟨(blk_cell BK308.out 0).trans rfl, (blk_cell BK308.out 1).trans rfl, (blk_cell BK292.out 0).trans rfl, (blk_cell BK292.out 1).trans rfl, ((HB.out.cell (World.block_lt_of_cell? w _ hw316_0)).trans hw316_0)⟩ (fun hHeld => ?_)
                                  clear hK K
                                  refine sqnm ?_
                                  refine sqp HT_ 17 114 ?_
                                  refine sqp HT_ 18 115 ?_
                                  refine last_ (i := 19) (N := none) #[true, true, true, true, true, true, true, true, true, true, true, true, true, true, true, true, true, true, true, true] rfl rfl (one_of HT_.out (by kernel_rfl)) (by decide) (fun K hK => ?_)
                                  refine skip_ (w1 := ?_) (by rfl) rfl ?_ ?_
                                  rotate_left
                                  · go_simp
                                    rfl
                                  refine hK.out _ _ ?_
                                  clear hK K
                                  refine done_ (done_of HT_.out (by kernel_rfl)) ?_
                                  try go_wp2
                                  go_roundg k2
                                  case measure => have := HJ4.out; have := HK2.out; omega
                                  case rel => exact ⟨(wrap64 (x73_2 + 1)), (y318), (.slice (some ⟨go65, 0, none⟩) x309001_2.length co65), (by first | rfl | (simp; done) | (simp [*]; done)), H', ⟨by have := HJ4.out; have := HK2.out; omega⟩, ⟨by (with_reducible repeat (first | apply Kd.R_alloc | apply Kd.R_drewN | apply Kd.R_drew)); exact HQ83.out⟩, ⟨by refine sqt ?_; refine blk_far ?_ (by have h_ := Kd.R_ne HO_309001.out BK292.out (by decide); intro e_; exact h_ (by rw [e_]; rfl)) _; refine sqt ?_; exact BK292.out⟩, ⟨by refine sqt ?_; refine blk_far ?_ (by have h_ := Kd.R_ne HO_309001.out BK293.out (by decide); intro e_; exact h_ (by rw [e_]; rfl)) _; refine sqt ?_; exact BK293.out⟩, ⟨by refine sqt ?_; refine blk_far ?_ (by have h_ := Kd.R_ne HO_309001.out BK308.out (by decide); intro e_; exact h_ (by rw [e_]; rfl)) _; refine sqt ?_; exact BK308.out⟩, ⟨by repeat (first | (with_reducible first | exact HB.out | apply below_alloc | apply pw_below_drewN | apply below_drew1 | refine below_set ?_ GB65.out | refine below_set ?_ GE292.out | refine below_set ?_ GE293.out | refine below_set ?_ GE308.out) | exact HB.out)⟩⟩
                                · rw [if_neg c73] at H
                                  exact absurd H (by simp)
                              · rw [if_neg c72] at H
                                exact absurd H (by simp)
                            · rw [if_neg c69] at H
                              exact absurd H (by simp)
                          · rw [if_neg c68] at H
                            exact absurd H (by simp)
                        · rw [if_neg c64] at H
                          exact absurd H (by simp)
                      · rw [if_neg c63] at H
                        exact absurd H (by simp)
                    · rw [if_neg c60] at H
                      exact absurd H (by simp)
                  · rw [if_neg c59] at H
                    exact absurd H (by simp)
              · rw [if_neg c55] at H
                have c55b0 : decide (x73_2 < (wrap64 (a0_0 + 1))) = false := decide_eq_false c55
                clear c55
                simp only [Option.some.injEq, Prod.mk.injEq] at H
                obtain ⟨rfl, rfl⟩ := H
                have hnb84 := NB308_292.out
                have hnc84 := NB292_308.out
                have hnb85 := NB308_293.out
                have hnc85 := NB293_308.out
                obtain ⟨hcz86_0, hcz86_1, hfz86_0, hfz86_1⟩ := sqc2 BK308
                have hnb87 := NB293_292.out
                have hnc87 := NB292_293.out
                obtain ⟨hcz88_0, hcz88_1, hfz88_0, hfz88_1⟩ := sqc2 BK293
                obtain ⟨Ao89, co89, eo89⟩ := Kd.R_slice HO_309001.out
                subst eo89
                go_wp2
                refine bodyPost_ret (results_cell_row rfl _ _ gb293 41 #[.int .i64 t304, .slice Ao89 x309001_2.length co89] (0, 0) _ rfl (by refine sqt ?_; refine blk_put (cs := #[.int .i64 t304, .slice none 0 0]) ?_ 1 _ rfl; refine sqt ?_; refine blk_put (cs := #[.int .i64 0, .slice none 0 0]) ?_ 0 _ rfl; refine sqt ?_; exact BK293.out) Try.underlying41 rfl (by kernel_rfl)) rfl ?_
                exact ⟨_, by first | rfl | (simp [errW_none, errW_some] <;> rfl) | (simp [*, errW_none, errW_some] <;> rfl), by (with_reducible repeat (first | apply Kd.R_alloc | apply Kd.R_drewN | apply Kd.R_drew)); exact Kd.R_mono (Kd.R_far (p := ⟨gb293, 1, none⟩) (Kd.R_far (p := ⟨gb293, 0, none⟩) (Kd.R_types HO_309001.out BK293.out (by decide)) (fun _ hk => hk.2) (.int .i64 t304)) (fun _ hk => hk.2) (.slice Ao89 x309001_2.length co89)) (fun _ hk => trivial), by repeat (first | (with_reducible first | exact HB.out | apply below_alloc | apply pw_below_drewN | apply below_drew1 | refine below_set ?_ GE292.out | refine below_set ?_ GE293.out | refine below_set ?_ GE308.out) | exact HB.out)⟩
        · rw [if_neg c44] at H
          have c44b0 : (a1 == a2) = false := beq_eq_false_iff_ne.mpr c44
          have c44b1 : (a1 != a2) = true := bne_iff_ne.mpr c44
          replace H := Option.bind_eq_some_iff.mp H
          obtain ⟨⟨t295, t296⟩, A900, H⟩ := H
          replace H : ((impl_Gaps_at.f a0_0 l0_1 a1 a2).bind fun t300 => (if 0 ≤ t300 then (if t300 < (t296.length : Int) then ((impl_Gaps_at.f a0_0 l0_1 a2 a1).bind fun t302 => (if 0 ≤ t302 then (if t302 < (t296.length : Int) then (some (t295, ((t296.set (t300 : Int).toNat a3).set (t302 : Int).toNat (wrap64 (-a3))))) else (none)) else (none))) else (none)) else (none))) = some (r1, r2) := H
          have A90 := Aside0.mk A900
          clear A900
          replace H := Option.bind_eq_some_iff.mp H
          obtain ⟨t300, A910, H⟩ := H
          replace H : (if 0 ≤ t300 then (if t300 < (t296.length : Int) then ((impl_Gaps_at.f a0_0 l0_1 a2 a1).bind fun t302 => (if 0 ≤ t302 then (if t302 < (t296.length : Int) then (some (t295, ((t296.set (t300 : Int).toNat a3).set (t302 : Int).toNat (wrap64 (-a3))))) else (none)) else (none))) else (none)) else (none)) = some (r1, r2) := H
          have A91 := Aside0.mk A910
          clear A910
          by_cases c92 : 0 ≤ t300
          · rw [if_pos c92] at H
            have c92b0 : decide (0 ≤ t300) = true := decide_eq_true c92
            clear c92
            by_cases c93 : t300 < (t296.length : Int)
            · rw [if_pos c93] at H
              have c93b0 : decide (t300 < (t296.length : Int)) = true := decide_eq_true c93
              clear c93
              obtain ⟨y301, hy301⟩ : ∃ y_ : List Int, y_ = (t296.set (t300 : Int).toNat a3) := ⟨_, rfl⟩
              replace H : ((impl_Gaps_at.f a0_0 l0_1 a2 a1).bind fun t302 => (if 0 ≤ t302 then (if t302 < (t296.length : Int) then (some (t295, (y301.set (t302 : Int).toNat (wrap64 (-a3))))) else (none)) else (none))) = some (r1, r2) := by first | (rw [hy301]; with_reducible exact H) | (have H2_ := (Option.bind_some _ _).symm.trans H; rw [hy301]; with_reducible exact H2_) | (have H2_ := (Option.bind_some _ _).symm.trans H; with_reducible exact H2_) | with_reducible exact H | (rw [hy301]; exact H) | exact H
              have Ny301 := Aside0.mk hy301
              clear hy301
              replace H := Option.bind_eq_some_iff.mp H
              obtain ⟨t302, A950, H⟩ := H
              replace H : (if 0 ≤ t302 then (if t302 < (t296.length : Int) then (some (t295, (y301.set (t302 : Int).toNat (wrap64 (-a3))))) else (none)) else (none)) = some (r1, r2) := H
              have A95 := Aside0.mk A950
              clear A950
              by_cases c96 : 0 ≤ t302
              · rw [if_pos c96] at H
                have c96b0 : decide (0 ≤ t302) = true := decide_eq_true c96
                clear c96
                by_cases c97 : t302 < (t296.length : Int)
                · rw [if_pos c97] at H
                  have c97b0 : decide (t302 < (t296.length : Int)) = true := decide_eq_true c97
                  clear c97
                  obtain ⟨y303, hy303⟩ : ∃ y_ : List Int, y_ = (y301.set (t302 : Int).toNat (wrap64 (-a3))) := ⟨_, rfl⟩
                  replace H : (some (t295, y303)) = some (r1, r2) := by first | (rw [hy303]; with_reducible exact H) | (have H2_ := (Option.bind_some _ _).symm.trans H; rw [hy303]; with_reducible exact H2_) | (have H2_ := (Option.bind_some _ _).symm.trans H; with_reducible exact H2_) | with_reducible exact H | (rw [hy303]; exact H) | exact H
                  have Ny303 := Aside0.mk hy303
                  clear hy303
                  simp only [Option.some.injEq, Prod.mk.injEq] at H
                  obtain ⟨rfl, rfl⟩ := H
                  have hnb99 := NB292_293.out
                  have hnc99 := NB293_292.out
                  obtain ⟨hcz100_0, hcz100_1, hfz100_0, hfz100_1⟩ := sqc2 BK292
                  try go_wp2_with (first | ((with_reducible refine gate_callee (f := 49) rfl ?_); refine sqL (some 49) Try.func49 #[.agg #[.int .i64 a0_0, .slice A0_1 l0_1.length c0_1], .int .i64 a1] ?_; (with_reducible refine (impl_GapsForget.calls kj4 a0_0 _ _ l0_1 a1 t295 t296 _ ?side1 ?side2 A90.out).mono ?_); (case side1 => repeat (first | exact (Kd.C_below HR0_1.out HB.out) | (with_reducible refine Kd.C_alloc ?_ _) | (with_reducible refine Kd.C_drewN ?_ _) | (with_reducible refine Kd.C_drew ?_))); (case side2 => exact HC0_1.out); rintro e w101 ⟨v297, rfl, ho0, hb⟩; refine ⟨_, rfl, ?_⟩; have HO298 := Aside0.mk (Kd.R_lower ho0 (below_size (by repeat (first | (with_reducible first | exact HB.out | apply below_alloc | apply pw_below_drewN | apply below_drew1 | refine below_set ?_ GE292.out | refine below_set ?_ GE293.out) | exact HB.out)))); replace BK292 := sqb BK292 hb; replace BK293 := sqb BK293 hb; replace HB := sqs HB hb; (try clear hb); (try clear hb2); (try clear hk); (try clear hi); (try clear ho0)) | ((with_reducible refine gate_dst (N := 9) rfl ?_); refine sqx 9 #[.int .i64 0, .slice none 0 0] 41 ?_; intro gb299 hg w102 hbox hb; have n0_ := Aside0.mk (Kd.R_below (by (with_reducible repeat (first | apply Kd.R_alloc | apply Kd.R_drewN | apply Kd.R_drew)); exact HO298.out) hb); have n1_ := sqb BK292 hb; have n2_ := sqb BK293 hb; have n3_ := sqs HB hb; have n4_ := Aside0.mk (hbox); have n5_ := sqg HB hg; have n6_ := sqg HB hg; have n7_ := sqn BK292 hg; have n8_ := sqm BK292 hg; have n9_ := sqn BK293 hg; have n10_ := sqm BK293 hg; clear HO298; clear BK292; clear BK293; clear HB; have HO298 := n0_; have BK292 := n1_; have BK293 := n2_; have HB := n3_; have BK299 := n4_; have GW299 := n5_; have GE299 := n6_; have NB292_299 := n7_; have NB299_292 := n8_; have NB293_299 := n9_; have NB299_293 := n10_; clear n0_ n1_ n2_ n3_ n4_ n5_ n6_ n7_ n8_ n9_ n10_; clear hb hbox hg; have hnb103 := NB299_292.out; have hnc103 := NB292_299.out; have hnb104 := NB299_293.out; have hnc104 := NB293_299.out; obtain ⟨hcz105_0, hcz105_1, hfz105_0, hfz105_1⟩ := sqc2 BK299; obtain ⟨Ao106, co106, eo106⟩ := Kd.R_slice HO298.out; subst eo106))
                  have n0_ : Aside0 (Kd.R (Kd.int .i64) 3 ((w102.setCell ⟨gb299, 0, none⟩ (.int .i64 t295)).setCell ⟨gb299, 1, none⟩ (.slice Ao106 t296.length co106)) w.heap.size (fun _ => True) (.slice Ao106 t296.length co106) t296) := ⟨by (with_reducible repeat (first | apply Kd.R_alloc | apply Kd.R_drewN | apply Kd.R_drew)); exact Kd.R_mono (Kd.R_far (p := ⟨gb299, 1, none⟩) (Kd.R_far (p := ⟨gb299, 0, none⟩) (Kd.R_types HO298.out BK299.out (by decide)) (fun _ hk => hk.2) (.int .i64 t295)) (fun _ hk => hk.2) (.slice Ao106 t296.length co106)) (fun _ hk => trivial)⟩
                  have n1_ : Aside0 (((w102.setCell ⟨gb299, 0, none⟩ (.int .i64 t295)).setCell ⟨gb299, 1, none⟩ (.slice Ao106 t296.length co106)).heap[gb292]? = some (.cells #[.int .i64 a0_0, .slice A0_1 l0_1.length c0_1] 41 (0, 0))) := ⟨by refine sqt ?_; refine blk_far ?_ NB292_299.out _; refine sqt ?_; refine blk_far ?_ NB292_299.out _; refine sqt ?_; exact BK292.out⟩
                  have n2_ : Aside0 (((w102.setCell ⟨gb299, 0, none⟩ (.int .i64 t295)).setCell ⟨gb299, 1, none⟩ (.slice Ao106 t296.length co106)).heap[gb293]? = some (.cells #[.int .i64 0, .slice none 0 0] 41 (0, 0))) := ⟨by refine sqt ?_; refine blk_far ?_ NB293_299.out _; refine sqt ?_; refine blk_far ?_ NB293_299.out _; refine sqt ?_; exact BK293.out⟩
                  have n3_ : Aside0 (((w102.setCell ⟨gb299, 0, none⟩ (.int .i64 t295)).setCell ⟨gb299, 1, none⟩ (.slice Ao106 t296.length co106)).heap[gb299]? = some (.cells #[.int .i64 t295, .slice Ao106 t296.length co106] 41 (0, 0))) := ⟨by refine sqt ?_; refine blk_put (cs := #[.int .i64 t295, .slice none 0 0]) ?_ 1 _ rfl; refine sqt ?_; refine blk_put (cs := #[.int .i64 0, .slice none 0 0]) ?_ 0 _ rfl; refine sqt ?_; exact BK299.out⟩
                  have n4_ : Aside0 (Below w.heap.size w ((w102.setCell ⟨gb299, 0, none⟩ (.int .i64 t295)).setCell ⟨gb299, 1, none⟩ (.slice Ao106 t296.length co106))) := sqh HB
                  (try clear HO298)
                  (try clear BK292)
                  (try clear BK293)
                  (try clear BK299)
                  (try clear HB)
                  generalize ((w102.setCell ⟨gb299, 0, none⟩ (.int .i64 t295)).setCell ⟨gb299, 1, none⟩ (.slice Ao106 t296.length co106)) = w107 at n0_ n1_ n2_ n3_ n4_ ⊢
                  have HO298 := n0_
                  have BK292 := n1_
                  have BK293 := n2_
                  have BK299 := n3_
                  have HB := n4_
                  clear n0_ n1_ n2_ n3_ n4_
                  replace HO298 := Aside0.mk (Kd.R_drew HO298.out)
                  replace BK292 := Aside0.mk (blk_drew BK292.out)
                  replace BK293 := Aside0.mk (blk_drew BK293.out)
                  replace BK299 := Aside0.mk (blk_drew BK299.out)
                  replace HB := Aside0.mk (below_drew1 HB.out)
                  refine start_ (n := 9) (S := fun w' => w'.cell? ⟨gb299, 0, none⟩ = some (.int .i64 t295) ∧ w'.cell? ⟨gb299, 1, none⟩ = some (.slice Ao106 t296.length co106) ∧ w'.cell? ⟨gb292, 0, none⟩ = some (.int .i64 a0_0) ∧ w'.cell? ⟨gb292, 1, none⟩ = some (.slice A0_1 l0_1.length c0_1)) (ds := [8]) #[false, false, false, false, false, false, false, false, false] (by kernel_rfl) rfl rfl ⟨(blk_cell BK299.out 0).trans rfl, (blk_cell BK299.out 1).trans rfl, (blk_cell BK292.out 0).trans rfl, (blk_cell BK292.out 1).trans rfl⟩ (fun hHeld => ?_); refine with_tabW impl_GapsMove.tab5 impl_GapsMove.bits5 (fun HT_ HW_ => ?_)
                  generalize w107.drew = w108 at HO298 BK292 BK293 BK299 HB hHeld ⊢
                  refine sqp HT_ 0 50 ?_
                  refine sqp HT_ 3 53 ?_
                  refine sqp HT_ 4 54 ?_
                  refine sqp HT_ 6 56 ?_
                  refine sqw HT_ HW_ 1 51 hHeld ?_
                  refine sqw HT_ HW_ 2 52 hHeld ?_
                  refine sqo HT_ 5 55 (fun K hK => ?_)
                  refine sqG Try.func118 #[.agg #[.int .i64 a0_0, .slice A0_1 l0_1.length c0_1], .int .i64 a1, .int .i64 a2] ?_
                  with_reducible refine (impl_Gaps_at.calls a0_0 _ _ l0_1 a1 a2 t300 _ ?side1 ?side2 A91.out).mono ?_
                  (case side1 => repeat (first | exact (Kd.C_below HR0_1.out HB.out) | (with_reducible refine Kd.C_alloc ?_ _) | (with_reducible refine Kd.C_drewN ?_ _) | (with_reducible refine Kd.C_drew ?_)))
                  (case side2 => exact HC0_1.out)
                  rintro e w109 ⟨rfl, hb⟩
                  refine ⟨_, rfl, ?_⟩
                  have n0_ := Aside0.mk (Kd.R_below (by (with_reducible repeat (first | apply Kd.R_alloc | apply Kd.R_drewN | apply Kd.R_drew)); exact HO298.out) hb)
                  have n1_ := sqb BK292 hb
                  have n2_ := sqb BK293 hb
                  have n3_ := sqb BK299 hb
                  have n4_ := sqs HB hb
                  clear HO298
                  clear BK292
                  clear BK293
                  clear BK299
                  clear HB
                  have HO298 := n0_
                  have BK292 := n1_
                  have BK293 := n2_
                  have BK299 := n3_
                  have HB := n4_
                  clear n0_ n1_ n2_ n3_ n4_
                  (try clear hb)
                  have p94 : 0 ≤ (t300 : Int) := of_decide_eq_true (by first | (with_reducible assumption) | assumption)
                  have q94 : (t300 : Int) < ((t296.length : Int) : Int) := of_decide_eq_true (by first | (with_reducible assumption) | assumption)
                  obtain ⟨go94, co94, eo94, gb94, gl94, cl94, HG94⟩ := Kd.R_form HO298.out (by omega)
                  (first | cases eo94 | (injection eo94 with ea_ en_ ec_; (first | subst ea_ | (injection ea_ with ea_; subst ea_)); subst ec_; clear en_))
                  have GB94 := Aside0.mk gb94
                  have GG94 := Aside0.mk HG94
                  clear gb94 gl94 HG94
                  obtain ⟨hx94_0, hf94_0⟩ := Kd.R_celln 0 HO298.out (t300 : Int) p94 q94
                  replace p94 := eq_true p94
                  replace q94 := eq_true q94
                  have HP110 := Kd.R_putn HO298.out (t300 : Int) a3
                  rw [← Ny301.out] at HP110
                  have HQ110 := Aside0.mk HP110
                  clear HP110
                  refine hK.out _ _ sqz (fun hHeld => ?_)
                  clear hK K
                  refine sqnm ?_
                  refine sqp HT_ 7 57 ?_
                  refine last_ (i := 8) (N := none) #[true, true, true, true, true, true, true, true, true] rfl rfl (one_of HT_.out (by kernel_rfl)) (by decide) (fun K hK => ?_)
                  refine skip_ (w1 := ?_) (by rfl) rfl ?_ ?_
                  rotate_left
                  · go_simp
                    rfl
                  refine hK.out _ _ ?_
                  clear hK K
                  refine done_ (done_of HT_.out (by kernel_rfl)) ?_
                  have n0_ : Aside0 (Kd.R (Kd.int .i64) 3 (w109.setCell ⟨go94, (t300 : Int).toNat, none⟩ (.int .i64 a3)) w.heap.size (fun _ => True) (.slice (some ⟨go94, 0, none⟩) t296.length co106) y301) := ⟨by (with_reducible repeat (first | apply Kd.R_alloc | apply Kd.R_drewN | apply Kd.R_drew)); exact HQ110.out⟩
                  have n1_ : Aside0 ((w109.setCell ⟨go94, (t300 : Int).toNat, none⟩ (.int .i64 a3)).heap[gb292]? = some (.cells #[.int .i64 a0_0, .slice A0_1 l0_1.length c0_1] 41 (0, 0))) := ⟨by refine sqt ?_; refine blk_far ?_ (by have h_ := Kd.R_ne HO298.out BK292.out (by decide); intro e_; exact h_ (by rw [e_]; rfl)) _; refine sqt ?_; exact BK292.out⟩
                  have n2_ : Aside0 ((w109.setCell ⟨go94, (t300 : Int).toNat, none⟩ (.int .i64 a3)).heap[gb293]? = some (.cells #[.int .i64 0, .slice none 0 0] 41 (0, 0))) := ⟨by refine sqt ?_; refine blk_far ?_ (by have h_ := Kd.R_ne HO298.out BK293.out (by decide); intro e_; exact h_ (by rw [e_]; rfl)) _; refine sqt ?_; exact BK293.out⟩
                  have n3_ : Aside0 ((w109.setCell ⟨go94, (t300 : Int).toNat, none⟩ (.int .i64 a3)).heap[gb299]? = some (.cells #[.int .i64 t295, .slice (some ⟨go94, 0, none⟩) t296.length co106] 41 (0, 0))) := ⟨by refine sqt ?_; refine blk_far ?_ (by have h_ := Kd.R_ne HO298.out BK299.out (by decide); intro e_; exact h_ (by rw [e_]; rfl)) _; refine sqt ?_; exact BK299.out⟩
                  have n4_ : Aside0 (Below w.heap.size w (w109.setCell ⟨go94, (t300 : Int).toNat, none⟩ (.int .i64 a3))) := ⟨by repeat (first | (with_reducible first | exact HB.out | apply below_alloc | apply pw_below_drewN | apply below_drew1 | refine below_set ?_ GB94.out | refine below_set ?_ GE292.out | refine below_set ?_ GE293.out | refine below_set ?_ GE299.out) | exact HB.out)⟩
                  (try clear HO298)
                  (try clear BK292)
                  (try clear BK293)
                  (try clear BK299)
                  (try clear HB)
                  generalize (w109.setCell ⟨go94, (t300 : Int).toNat, none⟩ (.int .i64 a3)) = w111 at n0_ n1_ n2_ n3_ n4_ ⊢
                  have HO298 := n0_
                  have BK292 := n1_
                  have BK293 := n2_
                  have BK299 := n3_
                  have HB := n4_
                  clear n0_ n1_ n2_ n3_ n4_
                  try go_wp2
                  replace HO298 := Aside0.mk (Kd.R_drew HO298.out)
                  replace BK292 := Aside0.mk (blk_drew BK292.out)
                  replace BK293 := Aside0.mk (blk_drew BK293.out)
                  replace BK299 := Aside0.mk (blk_drew BK299.out)
                  replace HB := Aside0.mk (below_drew1 HB.out)
                  refine start_ (n := 10) (S := fun w' => w'.cell? ⟨gb299, 0, none⟩ = some (.int .i64 t295) ∧ w'.cell? ⟨gb299, 1, none⟩ = some (.slice (some ⟨go94, 0, none⟩) t296.length co106) ∧ w'.cell? ⟨gb292, 0, none⟩ = some (.int .i64 a0_0) ∧ w'.cell? ⟨gb292, 1, none⟩ = some (.slice A0_1 l0_1.length c0_1)) (ds := [9]) #[false, false, false, false, false, false, false, false, false, false] (by kernel_rfl) rfl rfl ⟨(blk_cell BK299.out 0).trans rfl, (blk_cell BK299.out 1).trans rfl, (blk_cell BK292.out 0).trans rfl, (blk_cell BK292.out 1).trans rfl⟩ (fun hHeld => ?_); refine with_tabW impl_GapsMove.tab6 impl_GapsMove.bits6 (fun HT_ HW_ => ?_)
                  generalize w111.drew = w112 at HO298 BK292 BK293 BK299 HB hHeld ⊢
                  refine sqp HT_ 0 58 ?_
                  refine sqp HT_ 3 61 ?_
                  refine sqp HT_ 4 62 ?_
                  refine sqp HT_ 6 64 ?_
                  refine sqp HT_ 7 65 ?_
                  refine sqw HT_ HW_ 1 59 hHeld ?_
                  refine sqw HT_ HW_ 2 60 hHeld ?_
                  refine sqo HT_ 5 63 (fun K hK => ?_)
                  refine sqG Try.func118 #[.agg #[.int .i64 a0_0, .slice A0_1 l0_1.length c0_1], .int .i64 a2, .int .i64 a1] ?_
                  with_reducible refine (impl_Gaps_at.calls a0_0 _ _ l0_1 a2 a1 t302 _ ?side1 ?side2 A95.out).mono ?_
                  (case side1 => repeat (first | exact (Kd.C_below HR0_1.out HB.out) | (with_reducible refine Kd.C_alloc ?_ _) | (with_reducible refine Kd.C_drewN ?_ _) | (with_reducible refine Kd.C_drew ?_)))
                  (case side2 => exact HC0_1.out)
                  rintro e w113 ⟨rfl, hb⟩
                  refine ⟨_, rfl, ?_⟩
                  have n0_ := Aside0.mk (Kd.R_below (by (with_reducible repeat (first | apply Kd.R_alloc | apply Kd.R_drewN | apply Kd.R_drew)); exact HO298.out) hb)
                  have n1_ := sqb BK292 hb
                  have n2_ := sqb BK293 hb
                  have n3_ := sqb BK299 hb
                  have n4_ := sqs HB hb
                  clear HO298
                  clear BK292
                  clear BK293
                  clear BK299
                  clear HB
                  have HO298 := n0_
                  have BK292 := n1_
                  have BK293 := n2_
                  have BK299 := n3_
                  have HB := n4_
                  clear n0_ n1_ n2_ n3_ n4_
                  (try clear hb)
                  have p98 : 0 ≤ (t302 : Int) := of_decide_eq_true (by first | (with_reducible assumption) | assumption)
                  have q98 : (t302 : Int) < ((t296.length : Int) : Int) := of_decide_eq_true (by first | (with_reducible assumption) | assumption)
                  obtain ⟨hx98_0, hf98_0⟩ := Kd.R_celln 0 HO298.out (t302 : Int) p98 q98
                  replace p98 := eq_true p98
                  replace q98 := eq_true q98
                  have HP114 := Kd.R_putn HO298.out (t302 : Int) (wrap64 (-a3))
                  rw [← Ny303.out] at HP114
                  have HQ114 := Aside0.mk HP114
                  clear HP114
                  refine hK.out _ _ sqz (fun hHeld => ?_)
                  clear hK K
                  refine sqnm ?_
                  refine sqp HT_ 8 66 ?_
                  refine last_ (i := 9) (N := none) #[true, true, true, true, true, true, true, true, true, true] rfl rfl (one_of HT_.out (by kernel_rfl)) (by decide) (fun K hK => ?_)
                  refine skip_ (w1 := ?_) (by rfl) rfl ?_ ?_
                  rotate_left
                  · go_simp
                    rfl
                  refine hK.out _ _ ?_
                  clear hK K
                  refine done_ (done_of HT_.out (by kernel_rfl)) ?_
                  have n0_ : Aside0 (Kd.R (Kd.int .i64) 3 (w113.setCell ⟨go94, (t302 : Int).toNat, none⟩ (.int .i64 (wrap64 (-a3)))) w.heap.size (fun _ => True) (.slice (some ⟨go94, 0, none⟩) t296.length co106) y303) := ⟨by (with_reducible repeat (first | apply Kd.R_alloc | apply Kd.R_drewN | apply Kd.R_drew)); exact HQ114.out⟩
                  have n1_ : Aside0 ((w113.setCell ⟨go94, (t302 : Int).toNat, none⟩ (.int .i64 (wrap64 (-a3)))).heap[gb292]? = some (.cells #[.int .i64 a0_0, .slice A0_1 l0_1.length c0_1] 41 (0, 0))) := ⟨by refine sqt ?_; refine blk_far ?_ (by have h_ := Kd.R_ne HO298.out BK292.out (by decide); intro e_; exact h_ (by rw [e_]; rfl)) _; refine sqt ?_; exact BK292.out⟩
                  have n2_ : Aside0 ((w113.setCell ⟨go94, (t302 : Int).toNat, none⟩ (.int .i64 (wrap64 (-a3)))).heap[gb293]? = some (.cells #[.int .i64 0, .slice none 0 0] 41 (0, 0))) := ⟨by refine sqt ?_; refine blk_far ?_ (by have h_ := Kd.R_ne HO298.out BK293.out (by decide); intro e_; exact h_ (by rw [e_]; rfl)) _; refine sqt ?_; exact BK293.out⟩
                  have n3_ : Aside0 ((w113.setCell ⟨go94, (t302 : Int).toNat, none⟩ (.int .i64 (wrap64 (-a3)))).heap[gb299]? = some (.cells #[.int .i64 t295, .slice (some ⟨go94, 0, none⟩) t296.length co106] 41 (0, 0))) := ⟨by refine sqt ?_; refine blk_far ?_ (by have h_ := Kd.R_ne HO298.out BK299.out (by decide); intro e_; exact h_ (by rw [e_]; rfl)) _; refine sqt ?_; exact BK299.out⟩
                  have n4_ : Aside0 (Below w.heap.size w (w113.setCell ⟨go94, (t302 : Int).toNat, none⟩ (.int .i64 (wrap64 (-a3))))) := ⟨by repeat (first | (with_reducible first | exact HB.out | apply below_alloc | apply pw_below_drewN | apply below_drew1 | refine below_set ?_ GB94.out | refine below_set ?_ GE292.out | refine below_set ?_ GE293.out | refine below_set ?_ GE299.out) | exact HB.out)⟩
                  (try clear HO298)
                  (try clear BK292)
                  (try clear BK293)
                  (try clear BK299)
                  (try clear HB)
                  generalize (w113.setCell ⟨go94, (t302 : Int).toNat, none⟩ (.int .i64 (wrap64 (-a3)))) = w115 at n0_ n1_ n2_ n3_ n4_ ⊢
                  have HO298 := n0_
                  have BK292 := n1_
                  have BK293 := n2_
                  have BK299 := n3_
                  have HB := n4_
                  clear n0_ n1_ n2_ n3_ n4_
                  obtain ⟨hcz116_0, hcz116_1, hfz116_0, hfz116_1⟩ := sqc2 BK299
                  obtain ⟨hcz117_0, hcz117_1, hfz117_0, hfz117_1⟩ := sqc2 BK293
                  try go_wp2
                  refine bodyPost_ret (results_cell_row rfl _ _ gb293 41 #[.int .i64 t295, .slice (some ⟨go94, 0, none⟩) t296.length co106] (0, 0) _ rfl (by refine sqt ?_; refine blk_put (cs := #[.int .i64 t295, .slice none 0 0]) ?_ 1 _ rfl; refine sqt ?_; refine blk_put (cs := #[.int .i64 0, .slice none 0 0]) ?_ 0 _ rfl; refine sqt ?_; exact BK293.out) Try.underlying41 rfl (by kernel_rfl)) rfl ?_
                  exact ⟨_, by first | rfl | (simp [errW_none, errW_some] <;> rfl) | (simp [*, errW_none, errW_some] <;> rfl), by (with_reducible repeat (first | apply Kd.R_alloc | apply Kd.R_drewN | apply Kd.R_drew)); exact Kd.R_mono (Kd.R_far (p := ⟨gb293, 1, none⟩) (Kd.R_far (p := ⟨gb293, 0, none⟩) (Kd.R_types HO298.out BK293.out (by decide)) (fun _ hk => hk.2) (.int .i64 t295)) (fun _ hk => hk.2) (.slice (some ⟨go94, 0, none⟩) t296.length co106)) (fun _ hk => trivial), by repeat (first | (with_reducible first | exact HB.out | apply below_alloc | apply pw_below_drewN | apply below_drew1 | refine below_set ?_ GE292.out | refine below_set ?_ GE293.out | refine below_set ?_ GE299.out) | exact HB.out)⟩
                · rw [if_neg c97] at H
                  exact absurd H (by simp)
              · rw [if_neg c96] at H
                exact absurd H (by simp)
            · rw [if_neg c93] at H
              exact absurd H (by simp)
          · rw [if_neg c92] at H
            exact absurd H (by simp)

end Go.Proofs.Ytkekcenlleebeaa.PFnGapsBack
