/- Functions of the program as plain Lean functions, and that calls of them come to what these tell. Conditions: those in each law. -/
import Derived.Test.YtmdcgkkkfncieaaSq
import Derived.Test.YtmdcgkkkfncieaaDFnExactGapsCut
import Derived.Test.YtmdcgkkkfncieaaQFnExactGapsCutx0
import Derived.Test.YtmdcgkkkfncieaaQFnExactGapsCutx1
import Derived.Test.YtmdcgkkkfncieaaQFnExactGapsCutx2
namespace Go.Proofs.Ytmdcgkkkfncieaa.PFnExactGapsCut
open Go.RowKit Go.Proofs.Ytmdcgkkkfncieaa.Sq Go.Proofs.YtmdcgkkkfncieaaW.PrintWords Go.Proofs.YtmdcgkkkfncieaaW.PrintLast Go.Proofs.YtmdcgkkkfncieaaW.PrintMore
attribute [local go_sem] max2_int min2_int max_two min_two max_three min_three max_four min_four   -- for this text's walks alone
set_option linter.unusedVariables false
set_option linter.unusedSimpArgs false

/-! ### spec_GapsCut: function 26 -/
theorem spec_GapsCut.mono_l : ∀ k, (∀ y0 y1 y2 y3 y4 y5, LeO (spec_GapsCut.j0 k y0 y1 y2 y3 y4 y5) (spec_GapsCut.j0 (k + 1) y0 y1 y2 y3 y4 y5))
  | 0 => fun _ _ _ _ _ _ r h => by simp [spec_GapsCut.j0] at h
  | k + 1 => by
    have ih0 := spec_GapsCut.mono_l k
    · intro y0 y1 y2 y3 y4 y5
      unfold spec_GapsCut.j0
      repeat' first
      | (with_reducible exact ih0 _ _ _ _ _ _)
      | (with_reducible exact spec_GapsOk.mono _ _ _)
      | (with_reducible exact spec_l11Copy.mono _ _ _)
      | (with_reducible exact LeO.refl _)
      | (with_reducible exact LeO.none _)
      | (with_reducible refine LeO.ite ?_ ?_)
      | (with_reducible refine LeO.bind ?_ (fun _ => ?_))
      | exact ih0 _ _ _ _ _ _
      | exact spec_GapsOk.mono _ _ _
      | exact spec_l11Copy.mono _ _ _
      | exact LeO.none _
      | refine LeO.ite ?_ ?_
      | refine LeO.bind ?_ (fun _ => ?_)
theorem spec_GapsCut.mono : ∀ a0 a1 a2 a3 a4 k, LeO (spec_GapsCut.f k a0 a1 a2 a3 a4) (spec_GapsCut.f (k + 1) a0 a1 a2 a3 a4) := by
  intro a0 a1 a2 a3 a4 k
  have ih0 := spec_GapsCut.mono_l k
  unfold spec_GapsCut.f
  repeat' first
      | (with_reducible exact ih0 _ _ _ _ _ _)
      | (with_reducible exact spec_GapsOk.mono _ _ _)
      | (with_reducible exact spec_l11Copy.mono _ _ _)
      | (with_reducible exact LeO.refl _)
      | (with_reducible exact LeO.none _)
      | (with_reducible refine LeO.ite ?_ ?_)
      | (with_reducible refine LeO.bind ?_ (fun _ => ?_))
      | exact ih0 _ _ _ _ _ _
      | exact spec_GapsOk.mono _ _ _
      | exact spec_l11Copy.mono _ _ _
      | exact LeO.none _
      | refine LeO.ite ?_ ?_
      | refine LeO.bind ?_ (fun _ => ?_)
set_option maxHeartbeats 8000000 in
set_option maxRecDepth 100000 in
theorem spec_GapsCut.calls (k : Nat) (a0_0 : Int) (A0_1 : Option Addr) (c0_1 : Nat) (l0_1 : List Int) (a1 : Int) (a2 : Int) (a3 : Int) (r1 : Int) (r2 : List Int) (w : World) (hr0_1 : Kd.C (Kd.int .i64) w A0_1 l0_1.length l0_1) (hc0_1 : l0_1.length ≤ c0_1) (h : spec_GapsCut.f k a0_0 l0_1 a1 a2 a3 = some (r1, r2)) :
    Calls Try.prog 26 #[.agg #[.int .i64 a0_0, .slice A0_1 l0_1.length c0_1], .int .i64 a1, .int .i64 a2, .int .i64 a3] w fun e w' => ∃ v1_ : Value, e = .returned (.agg #[.int .i64 r1, v1_]) ∧ Kd.R (Kd.int .i64) 3 w' w.heap.size (fun _ => True) v1_ r2 ∧ Below w.heap.size w w' := by
  have hu29 := Try.underlying29
  have HR0_1 := Aside0.mk hr0_1
  have HC0_1 := Aside0.mk hc0_1
  clear hr0_1 hc0_1
  have HB := Aside0.mk (Below.refl w.heap.size w)
  have H : ((spec_GapsOk.f k a0_0 l0_1).bind fun t144 => (if t144 = true then ((spec_l1In.f a1 0 a0_0).bind fun t145 => (if t145 = true then ((spec_l1In.f a2 0 a0_0).bind fun t146 => (if t146 = true then (if a1 = a2 then (spec_GapsCut.j0 k a1 a2 a3 true a0_0 l0_1) else ((spec_l11C.f a3).bind fun t147 => (spec_GapsCut.j0 k a1 a2 a3 (!t147) a0_0 l0_1))) else (spec_GapsCut.j0 k a1 a2 a3 true a0_0 l0_1))) else (spec_GapsCut.j0 k a1 a2 a3 true a0_0 l0_1))) else (spec_GapsCut.j0 k a1 a2 a3 true a0_0 l0_1))) = some (r1, r2) := h
  clear h
  have HC5 := Aside0.mk H
  clear H
  go_enter Try.func26, Try.ntmps26
  go_upto_region 1 with (first | ((with_reducible refine gate_dst (N := 4) rfl ?_); refine sqx 4 #[.int .i64 a0_0, .slice A0_1 l0_1.length c0_1] 29 ?_; intro gb142 hg w6 hbox hb; have BK142 := Aside0.mk (hbox); have GW142 := sqg HB hg; have GE142 := sqg HB hg; replace HB := sqs HB hb; clear hb hbox hg) | ((with_reducible refine gate_dst (N := 8) rfl ?_); refine sqx 8 #[.int .i64 0, .slice none 0 0] 29 ?_; intro gb143 hg w7 hbox hb; have BK143 := Aside0.mk (hbox); have GW143 := sqg HB hg; have GE143 := sqg HB hg; have NB142_143 := sqn BK142 hg; have NB143_142 := sqm BK142 hg; replace BK142 := sqb BK142 hb; replace HB := sqs HB hb; clear hb hbox hg))
  (try simp only [Act.put, List.setIfInBounds_toArray, List.set_cons_zero, List.set_cons_succ])
  go_cut [36] (fun v36 wc => ∃ (kq : Nat) (x36_4 : Bool), v36 = .bool x36_4 ∧ Aside0 (spec_GapsCut.j0 kq a1 a2 a3 x36_4 a0_0 l0_1 = some (r1, r2)) ∧ Aside0 (kq ≤ k) ∧ Aside0 (wc.heap[gb142]? = some (.cells #[.int .i64 a0_0, (.slice A0_1 l0_1.length c0_1)] 29 (0, 0))) ∧ Aside0 (wc.heap[gb143]? = some (.cells #[.int .i64 0, (.slice none 0 0)] 29 (0, 0))) ∧ Aside0 (Below w.heap.size w wc))
  case first =>
    have H := HC5.out
    clear HC5
    replace H := Option.bind_eq_some_iff.mp H
    obtain ⟨t144, A80, H⟩ := H
    replace H : (if t144 = true then ((spec_l1In.f a1 0 a0_0).bind fun t145 => (if t145 = true then ((spec_l1In.f a2 0 a0_0).bind fun t146 => (if t146 = true then (if a1 = a2 then (spec_GapsCut.j0 k a1 a2 a3 true a0_0 l0_1) else ((spec_l11C.f a3).bind fun t147 => (spec_GapsCut.j0 k a1 a2 a3 (!t147) a0_0 l0_1))) else (spec_GapsCut.j0 k a1 a2 a3 true a0_0 l0_1))) else (spec_GapsCut.j0 k a1 a2 a3 true a0_0 l0_1))) else (spec_GapsCut.j0 k a1 a2 a3 true a0_0 l0_1)) = some (r1, r2) := H
    have A8 := Aside0.mk A80
    clear A80
    by_cases c9 : t144 = true
    · subst c9
      have H1 : ((spec_l1In.f a1 0 a0_0).bind fun t145 => (if t145 = true then ((spec_l1In.f a2 0 a0_0).bind fun t146 => (if t146 = true then (if a1 = a2 then (spec_GapsCut.j0 k a1 a2 a3 true a0_0 l0_1) else ((spec_l11C.f a3).bind fun t147 => (spec_GapsCut.j0 k a1 a2 a3 (!t147) a0_0 l0_1))) else (spec_GapsCut.j0 k a1 a2 a3 true a0_0 l0_1))) else (spec_GapsCut.j0 k a1 a2 a3 true a0_0 l0_1))) = some (r1, r2) := by rw [if_pos rfl] at H; exact H
      clear H
      have H := H1
      clear H1
      replace H := Option.bind_eq_some_iff.mp H
      obtain ⟨t145, A100, H⟩ := H
      replace H : (if t145 = true then ((spec_l1In.f a2 0 a0_0).bind fun t146 => (if t146 = true then (if a1 = a2 then (spec_GapsCut.j0 k a1 a2 a3 true a0_0 l0_1) else ((spec_l11C.f a3).bind fun t147 => (spec_GapsCut.j0 k a1 a2 a3 (!t147) a0_0 l0_1))) else (spec_GapsCut.j0 k a1 a2 a3 true a0_0 l0_1))) else (spec_GapsCut.j0 k a1 a2 a3 true a0_0 l0_1)) = some (r1, r2) := H
      have A10 := Aside0.mk A100
      clear A100
      by_cases c11 : t145 = true
      · subst c11
        have H1 : ((spec_l1In.f a2 0 a0_0).bind fun t146 => (if t146 = true then (if a1 = a2 then (spec_GapsCut.j0 k a1 a2 a3 true a0_0 l0_1) else ((spec_l11C.f a3).bind fun t147 => (spec_GapsCut.j0 k a1 a2 a3 (!t147) a0_0 l0_1))) else (spec_GapsCut.j0 k a1 a2 a3 true a0_0 l0_1))) = some (r1, r2) := by rw [if_pos rfl] at H; exact H
        clear H
        have H := H1
        clear H1
        replace H := Option.bind_eq_some_iff.mp H
        obtain ⟨t146, A120, H⟩ := H
        replace H : (if t146 = true then (if a1 = a2 then (spec_GapsCut.j0 k a1 a2 a3 true a0_0 l0_1) else ((spec_l11C.f a3).bind fun t147 => (spec_GapsCut.j0 k a1 a2 a3 (!t147) a0_0 l0_1))) else (spec_GapsCut.j0 k a1 a2 a3 true a0_0 l0_1)) = some (r1, r2) := H
        have A12 := Aside0.mk A120
        clear A120
        by_cases c13 : t146 = true
        · subst c13
          have H1 : (if a1 = a2 then (spec_GapsCut.j0 k a1 a2 a3 true a0_0 l0_1) else ((spec_l11C.f a3).bind fun t147 => (spec_GapsCut.j0 k a1 a2 a3 (!t147) a0_0 l0_1))) = some (r1, r2) := by rw [if_pos rfl] at H; exact H
          clear H
          have H := H1
          clear H1
          by_cases c14 : a1 = a2
          · rw [if_pos c14] at H
            have c14b0 : (a1 == a2) = true := beq_iff_eq.mpr c14
            have c14b1 : (a1 != a2) = false := bne_eq_false_iff_eq.mpr c14
            clear c14
            (first | rw [c14b0] | (simp only [i64_w, i32_w]; rw [c14b0]) | skip)
            have H' := Aside0.mk H
            clear H
            have hnb15 := NB142_143.out
            have hnc15 := NB143_142.out
            obtain ⟨hcz16_0, hcz16_1, hfz16_0, hfz16_1⟩ := sqc2 BK142
            go_wp2_with (first | ((with_reducible refine gate_callee (f := 66) rfl ?_); refine sqL (some 11) Try.func66 #[.agg #[.int .i64 a0_0, .slice A0_1 l0_1.length c0_1]] ?_; (with_reducible refine (spec_GapsOk.calls k a0_0 _ _ l0_1 true _ ?side1 ?side2 A8.out).mono ?_); (case side1 => repeat (first | exact (Kd.C_below HR0_1.out HB.out) | (with_reducible refine Kd.C_alloc ?_ _) | (with_reducible refine Kd.C_drewN ?_ _) | (with_reducible refine Kd.C_drew ?_))); (case side2 => exact HC0_1.out); rintro e w17 ⟨rfl, hb⟩; refine ⟨_, rfl, ?_⟩; replace BK142 := sqb BK142 hb; replace BK143 := sqb BK143 hb; replace HB := sqs HB hb; (try clear hb); obtain ⟨hcz18_0, hcz18_1, hfz18_0, hfz18_1⟩ := sqc2 BK142) | (go_at_call 67; (with_reducible refine (spec_l1In.calls a1 0 a0_0 true _ A10.out).mono ?_); rintro e w' ⟨rfl, ⟨nd, rfl⟩⟩) | (go_at_call 67; (with_reducible refine (spec_l1In.calls a2 0 a0_0 true _ A12.out).mono ?_); rintro e w' ⟨rfl, ⟨nd, rfl⟩⟩))
            go_meet
            case rel => exact ⟨_, (true), (by first | rfl | (simp; done) | (simp [*]; done)), H', ⟨by first | omega | exact Nat.le_refl _⟩, sqk BK142, sqk BK143, sqh HB⟩
          · rw [if_neg c14] at H
            have c14b0 : (a1 == a2) = false := beq_eq_false_iff_ne.mpr c14
            have c14b1 : (a1 != a2) = true := bne_iff_ne.mpr c14
            (first | rw [c14b0] | (simp only [i64_w, i32_w]; rw [c14b0]) | skip)
            replace H := Option.bind_eq_some_iff.mp H
            obtain ⟨t147, A190, H⟩ := H
            replace H : (spec_GapsCut.j0 k a1 a2 a3 (!t147) a0_0 l0_1) = some (r1, r2) := H
            have A19 := Aside0.mk A190
            clear A190
            have H' := Aside0.mk H
            clear H
            have hnb20 := NB142_143.out
            have hnc20 := NB143_142.out
            obtain ⟨hcz21_0, hcz21_1, hfz21_0, hfz21_1⟩ := sqc2 BK142
            go_wp2_with (first | ((with_reducible refine gate_callee (f := 66) rfl ?_); refine sqL (some 11) Try.func66 #[.agg #[.int .i64 a0_0, .slice A0_1 l0_1.length c0_1]] ?_; (with_reducible refine (spec_GapsOk.calls k a0_0 _ _ l0_1 true _ ?side1 ?side2 A8.out).mono ?_); (case side1 => repeat (first | exact (Kd.C_below HR0_1.out HB.out) | (with_reducible refine Kd.C_alloc ?_ _) | (with_reducible refine Kd.C_drewN ?_ _) | (with_reducible refine Kd.C_drew ?_))); (case side2 => exact HC0_1.out); rintro e w22 ⟨rfl, hb⟩; refine ⟨_, rfl, ?_⟩; replace BK142 := sqb BK142 hb; replace BK143 := sqb BK143 hb; replace HB := sqs HB hb; (try clear hb); obtain ⟨hcz23_0, hcz23_1, hfz23_0, hfz23_1⟩ := sqc2 BK142) | (go_at_call 67; (with_reducible refine (spec_l1In.calls a1 0 a0_0 true _ A10.out).mono ?_); rintro e w' ⟨rfl, ⟨nd, rfl⟩⟩) | (go_at_call 67; (with_reducible refine (spec_l1In.calls a2 0 a0_0 true _ A12.out).mono ?_); rintro e w' ⟨rfl, ⟨nd, rfl⟩⟩) | (go_at_call 82; (with_reducible refine (spec_l11C.calls a3 t147 _ A19.out).mono ?_); rintro e w' ⟨rfl, ⟨nd, rfl⟩⟩))
            go_meet
            case rel => exact ⟨_, (!t147), (by first | rfl | (simp; done) | (simp [*]; done)), H', ⟨by first | omega | exact Nat.le_refl _⟩, sqk BK142, sqk BK143, sqh HB⟩
        · replace c13 := Bool.eq_false_iff.mpr c13
          subst c13
          have H1 : (spec_GapsCut.j0 k a1 a2 a3 true a0_0 l0_1) = some (r1, r2) := by rw [if_neg (show ¬ (false = true) by decide)] at H; exact H
          clear H
          have H := H1
          clear H1
          have H' := Aside0.mk H
          clear H
          have hnb24 := NB142_143.out
          have hnc24 := NB143_142.out
          obtain ⟨hcz25_0, hcz25_1, hfz25_0, hfz25_1⟩ := sqc2 BK142
          go_wp2_with (first | ((with_reducible refine gate_callee (f := 66) rfl ?_); refine sqL (some 11) Try.func66 #[.agg #[.int .i64 a0_0, .slice A0_1 l0_1.length c0_1]] ?_; (with_reducible refine (spec_GapsOk.calls k a0_0 _ _ l0_1 true _ ?side1 ?side2 A8.out).mono ?_); (case side1 => repeat (first | exact (Kd.C_below HR0_1.out HB.out) | (with_reducible refine Kd.C_alloc ?_ _) | (with_reducible refine Kd.C_drewN ?_ _) | (with_reducible refine Kd.C_drew ?_))); (case side2 => exact HC0_1.out); rintro e w26 ⟨rfl, hb⟩; refine ⟨_, rfl, ?_⟩; replace BK142 := sqb BK142 hb; replace BK143 := sqb BK143 hb; replace HB := sqs HB hb; (try clear hb); obtain ⟨hcz27_0, hcz27_1, hfz27_0, hfz27_1⟩ := sqc2 BK142) | (go_at_call 67; (with_reducible refine (spec_l1In.calls a1 0 a0_0 true _ A10.out).mono ?_); rintro e w' ⟨rfl, ⟨nd, rfl⟩⟩) | (go_at_call 67; (with_reducible refine (spec_l1In.calls a2 0 a0_0 false _ A12.out).mono ?_); rintro e w' ⟨rfl, ⟨nd, rfl⟩⟩))
          go_meet
          case rel => exact ⟨_, (true), (by first | rfl | (simp; done) | (simp [*]; done)), H', ⟨by first | omega | exact Nat.le_refl _⟩, sqk BK142, sqk BK143, sqh HB⟩
      · replace c11 := Bool.eq_false_iff.mpr c11
        subst c11
        have H1 : (spec_GapsCut.j0 k a1 a2 a3 true a0_0 l0_1) = some (r1, r2) := by rw [if_neg (show ¬ (false = true) by decide)] at H; exact H
        clear H
        have H := H1
        clear H1
        have H' := Aside0.mk H
        clear H
        have hnb28 := NB142_143.out
        have hnc28 := NB143_142.out
        obtain ⟨hcz29_0, hcz29_1, hfz29_0, hfz29_1⟩ := sqc2 BK142
        go_wp2_with (first | ((with_reducible refine gate_callee (f := 66) rfl ?_); refine sqL (some 11) Try.func66 #[.agg #[.int .i64 a0_0, .slice A0_1 l0_1.length c0_1]] ?_; (with_reducible refine (spec_GapsOk.calls k a0_0 _ _ l0_1 true _ ?side1 ?side2 A8.out).mono ?_); (case side1 => repeat (first | exact (Kd.C_below HR0_1.out HB.out) | (with_reducible refine Kd.C_alloc ?_ _) | (with_reducible refine Kd.C_drewN ?_ _) | (with_reducible refine Kd.C_drew ?_))); (case side2 => exact HC0_1.out); rintro e w30 ⟨rfl, hb⟩; refine ⟨_, rfl, ?_⟩; replace BK142 := sqb BK142 hb; replace BK143 := sqb BK143 hb; replace HB := sqs HB hb; (try clear hb); obtain ⟨hcz31_0, hcz31_1, hfz31_0, hfz31_1⟩ := sqc2 BK142) | (go_at_call 67; (with_reducible refine (spec_l1In.calls a1 0 a0_0 false _ A10.out).mono ?_); rintro e w' ⟨rfl, ⟨nd, rfl⟩⟩))
        go_meet
        case rel => exact ⟨_, (true), (by first | rfl | (simp; done) | (simp [*]; done)), H', ⟨by first | omega | exact Nat.le_refl _⟩, sqk BK142, sqk BK143, sqh HB⟩
    · replace c9 := Bool.eq_false_iff.mpr c9
      subst c9
      have H1 : (spec_GapsCut.j0 k a1 a2 a3 true a0_0 l0_1) = some (r1, r2) := by rw [if_neg (show ¬ (false = true) by decide)] at H; exact H
      clear H
      have H := H1
      clear H1
      have H' := Aside0.mk H
      clear H
      have hnb32 := NB142_143.out
      have hnc32 := NB143_142.out
      obtain ⟨hcz33_0, hcz33_1, hfz33_0, hfz33_1⟩ := sqc2 BK142
      go_wp2_with (first | ((with_reducible refine gate_callee (f := 66) rfl ?_); refine sqL (some 11) Try.func66 #[.agg #[.int .i64 a0_0, .slice A0_1 l0_1.length c0_1]] ?_; (with_reducible refine (spec_GapsOk.calls k a0_0 _ _ l0_1 false _ ?side1 ?side2 A8.out).mono ?_); (case side1 => repeat (first | exact (Kd.C_below HR0_1.out HB.out) | (with_reducible refine Kd.C_alloc ?_ _) | (with_reducible refine Kd.C_drewN ?_ _) | (with_reducible refine Kd.C_drew ?_))); (case side2 => exact HC0_1.out); rintro e w34 ⟨rfl, hb⟩; refine ⟨_, rfl, ?_⟩; replace BK142 := sqb BK142 hb; replace BK143 := sqb BK143 hb; replace HB := sqs HB hb; (try clear hb)))
      go_meet
      case rel => exact ⟨_, (true), (by first | rfl | (simp; done) | (simp [*]; done)), H', ⟨by first | omega | exact Nat.le_refl _⟩, sqk BK142, sqk BK143, sqh HB⟩
  case rest =>
    clear HC5
    obtain ⟨kq, x36_4, rfl, HA, HJ4, BK142, BK143, HB⟩ := hcut
    cases kq with
    | zero => exact absurd HA.out (by simp [spec_GapsCut.j0])
    | succ kj4 =>
      have H := HA.out
      clear HA
      simp only [spec_GapsCut.j0] at H
      by_cases c35 : x36_4 = true
      · subst c35
        have H1 : (some (0, ([] : List Int))) = some (r1, r2) := by rw [if_pos rfl] at H; exact H
        clear H
        have H := H1
        clear H1
        simp only [Option.some.injEq, Prod.mk.injEq] at H
        obtain ⟨rfl, rfl⟩ := H
        have hnb36 := NB143_142.out
        have hnc36 := NB142_143.out
        obtain ⟨hcz37_0, hcz37_1, hfz37_0, hfz37_1⟩ := sqc2 BK143
        go_wp2
        refine bodyPost_ret (results_cell_row rfl _ _ gb143 29 #[.int .i64 0, .slice none 0 0] (0, 0) _ rfl (by refine sqt ?_; refine blk_put (cs := #[.int .i64 0, .slice none 0 0]) ?_ 1 _ rfl; refine sqt ?_; refine blk_put (cs := #[.int .i64 0, .slice none 0 0]) ?_ 0 _ rfl; refine sqt ?_; exact BK143.out) Try.underlying29 rfl (by kernel_rfl)) rfl ?_
        exact ⟨_, by first | rfl | (simp [errW_none, errW_some] <;> rfl) | (simp [*, errW_none, errW_some] <;> rfl), by first | exact Kd.R_nil _ _ _ _ _ | exact Kd.N_nil _ _ _ _ _ | exact Kd.V_nil _ _ _ _ _ | exact Kd.Q_nil _ _ _ _ _ | exact Kd.S_nil _ _ _ _ _, by repeat (first | (with_reducible first | exact HB.out | apply below_alloc | apply pw_below_drewN | apply below_drew1 | refine below_set ?_ GE142.out | refine below_set ?_ GE143.out) | exact HB.out)⟩
      · replace c35 := Bool.eq_false_iff.mpr c35
        subst c35
        have H1 : ((spec_l11Copy.f kj4 a0_0 l0_1).bind fun bt148 => ((spec_l11At.f a0_0 l0_1 a1 a2).bind fun t153 => (if a3 < t153 then ((spec_l11Put.f bt148.1 bt148.2 a1 a2 a3).bind fun t154 => (some (bt148.1, t154))) else (some (bt148.1, bt148.2))))) = some (r1, r2) := by rw [if_neg (show ¬ (false = true) by decide)] at H; exact H
        clear H
        have H := H1
        clear H1
        replace H := Option.bind_eq_some_iff.mp H
        obtain ⟨⟨t148, t149⟩, A380, H⟩ := H
        replace H : ((spec_l11At.f a0_0 l0_1 a1 a2).bind fun t153 => (if a3 < t153 then ((spec_l11Put.f t148 t149 a1 a2 a3).bind fun t154 => (some (t148, t154))) else (some (t148, t149)))) = some (r1, r2) := H
        have A38 := Aside0.mk A380
        clear A380
        replace H := Option.bind_eq_some_iff.mp H
        obtain ⟨t153, A390, H⟩ := H
        replace H : (if a3 < t153 then ((spec_l11Put.f t148 t149 a1 a2 a3).bind fun t154 => (some (t148, t154))) else (some (t148, t149))) = some (r1, r2) := H
        have A39 := Aside0.mk A390
        clear A390
        by_cases c40 : a3 < t153
        · rw [if_pos c40] at H
          have c40b0 : decide (a3 < t153) = true := decide_eq_true c40
          clear c40
          replace H := Option.bind_eq_some_iff.mp H
          obtain ⟨t154, A410, H⟩ := H
          replace H : (some (t148, t154)) = some (r1, r2) := H
          have A41 := Aside0.mk A410
          clear A410
          simp only [Option.some.injEq, Prod.mk.injEq] at H
          obtain ⟨rfl, rfl⟩ := H
          have hnb42 := NB142_143.out
          have hnc42 := NB143_142.out
          obtain ⟨hcz43_0, hcz43_1, hfz43_0, hfz43_1⟩ := sqc2 BK142
          go_wp2_with (first | ((with_reducible refine gate_callee (f := 83) rfl ?_); refine sqL (some 39) Try.func83 #[.agg #[.int .i64 a0_0, .slice A0_1 l0_1.length c0_1]] ?_; (with_reducible refine (spec_l11Copy.calls kj4 a0_0 _ _ l0_1 t148 t149 _ ?side1 ?side2 A38.out).mono ?_); (case side1 => repeat (first | exact (Kd.C_below HR0_1.out HB.out) | (with_reducible refine Kd.C_alloc ?_ _) | (with_reducible refine Kd.C_drewN ?_ _) | (with_reducible refine Kd.C_drew ?_))); (case side2 => exact HC0_1.out); rintro e w44 ⟨v150, rfl, ho0, hb⟩; refine ⟨_, rfl, ?_⟩; have HO151 := Aside0.mk (Kd.R_lower ho0 (below_size (by repeat (first | (with_reducible first | exact HB.out | apply below_alloc | apply pw_below_drewN | apply below_drew1 | refine below_set ?_ GE142.out | refine below_set ?_ GE143.out) | exact HB.out)))); replace BK142 := sqb BK142 hb; replace BK143 := sqb BK143 hb; replace HB := sqs HB hb; (try clear hb); (try clear hb2); (try clear hk); (try clear hi); (try clear ho0)) | ((with_reducible refine gate_dst (N := 9) rfl ?_); refine sqx 9 #[.int .i64 0, .slice none 0 0] 29 ?_; intro gb152 hg w45 hbox hb; have n0_ := Aside0.mk (Kd.R_below (by (with_reducible repeat (first | apply Kd.R_alloc | apply Kd.R_drewN | apply Kd.R_drew)); exact HO151.out) hb); have n1_ := sqb BK142 hb; have n2_ := sqb BK143 hb; have n3_ := sqs HB hb; have n4_ := Aside0.mk (hbox); have n5_ := sqg HB hg; have n6_ := sqg HB hg; have n7_ := sqn BK142 hg; have n8_ := sqm BK142 hg; have n9_ := sqn BK143 hg; have n10_ := sqm BK143 hg; clear HO151; clear BK142; clear BK143; clear HB; have HO151 := n0_; have BK142 := n1_; have BK143 := n2_; have HB := n3_; have BK152 := n4_; have GW152 := n5_; have GE152 := n6_; have NB142_152 := n7_; have NB152_142 := n8_; have NB143_152 := n9_; have NB152_143 := n10_; clear n0_ n1_ n2_ n3_ n4_ n5_ n6_ n7_ n8_ n9_ n10_; clear hb hbox hg; have hnb46 := NB152_142.out; have hnc46 := NB142_152.out; have hnb47 := NB152_143.out; have hnc47 := NB143_152.out; obtain ⟨hcz48_0, hcz48_1, hfz48_0, hfz48_1⟩ := sqc2 BK152; obtain ⟨Ao49, co49, eo49⟩ := Kd.R_slice HO151.out; subst eo49; obtain ⟨hcz50_0, hcz50_1, hfz50_0, hfz50_1⟩ := sqc2 BK142) | ((with_reducible refine gate_callee (f := 70) rfl ?_); refine sqL (some 44) Try.func70 #[.agg #[.int .i64 a0_0, .slice A0_1 l0_1.length c0_1], .int .i64 a1, .int .i64 a2] ?_; (with_reducible refine (spec_l11At.calls a0_0 _ _ l0_1 a1 a2 t153 _ ?side1 ?side2 A39.out).mono ?_); (case side1 => exact Kd.C_below HR0_1.out (by repeat (first | (with_reducible first | exact HB.out | apply below_alloc | apply pw_below_drewN | apply below_drew1 | refine below_set ?_ GE142.out | refine below_set ?_ GE143.out | refine below_set ?_ GE152.out) | exact HB.out))); (case side2 => exact HC0_1.out); rintro e w51 ⟨rfl, hb⟩; refine ⟨_, rfl, ?_⟩; have n0_ := Aside0.mk (Kd.R_below (by (with_reducible repeat (first | apply Kd.R_alloc | apply Kd.R_drewN | apply Kd.R_drew)); exact (Kd.R_mono (Kd.R_far (p := ⟨gb152, 1, none⟩) (Kd.R_far (p := ⟨gb152, 0, none⟩) (Kd.R_types HO151.out BK152.out (by decide)) (fun _ hk => hk.2) (.int .i64 t148)) (fun _ hk => hk.2) (.slice Ao49 t149.length co49)) (fun _ h_ => h_.1))) hb); have n1_ := Aside0.mk (blk_below (g := gb142) (o := .cells #[.int .i64 a0_0, .slice A0_1 l0_1.length c0_1] 29 (0, 0)) (by refine sqt ?_; refine blk_far ?_ NB142_152.out _; refine sqt ?_; refine blk_far ?_ NB142_152.out _; refine sqt ?_; exact BK142.out) hb); have n2_ := Aside0.mk (blk_below (g := gb143) (o := .cells #[.int .i64 0, .slice none 0 0] 29 (0, 0)) (by refine sqt ?_; refine blk_far ?_ NB143_152.out _; refine sqt ?_; refine blk_far ?_ NB143_152.out _; refine sqt ?_; exact BK143.out) hb); have n3_ := Aside0.mk (blk_below (g := gb152) (o := .cells #[.int .i64 t148, .slice Ao49 t149.length co49] 29 (0, 0)) (by refine sqt ?_; refine blk_put (cs := #[.int .i64 t148, .slice none 0 0]) ?_ 1 _ rfl; refine sqt ?_; refine blk_put (cs := #[.int .i64 0, .slice none 0 0]) ?_ 0 _ rfl; refine sqt ?_; exact BK152.out) hb); have n4_ := sqs HB hb; clear HO151; clear BK142; clear BK143; clear BK152; clear HB; have HO151 := n0_; have BK142 := n1_; have BK143 := n2_; have BK152 := n3_; have HB := n4_; clear n0_ n1_ n2_ n3_ n4_; (try clear hb); (try clear hb2); (try clear hk); (try clear hi); obtain ⟨hcz52_0, hcz52_1, hfz52_0, hfz52_1⟩ := sqc2 BK152) | ((with_reducible refine gate_callee (f := 84) rfl ?_); refine sqL (some 50) Try.func84 #[.agg #[.int .i64 t148, .slice Ao49 t149.length co49], .int .i64 a1, .int .i64 a2, .int .i64 a3] ?_; (with_reducible refine (spec_l11Put.calls t148 (fun k_ => some k_ = (.slice Ao49 t149.length co49 : Value).ownBlock) (.slice Ao49 t149.length co49) t149 a1 a2 a3 t154 w _ ?side1 ?side2 A41.out).mono ?_); (case side1 => repeat (first | (with_reducible first | exact HB.out | apply below_alloc | apply pw_below_drewN | apply below_drew1 | refine below_set ?_ GE142.out | refine below_set ?_ GE143.out | refine below_set ?_ GE152.out) | exact HB.out)); (case side2 => exact Kd.R_tight rfl HO151.out); rintro e w53 ⟨rfl, hy0, hb, hkp⟩; refine ⟨_, rfl, ?_⟩; have n0_ := Aside0.mk (blk_kept (by refine sqt ?_; exact BK142.out) hkp (fun hs_ => (fun e_ => (Kd.R_ne HO151.out BK142.out (by decide)) e_) hs_)); have n1_ := Aside0.mk (blk_kept (by refine sqt ?_; exact BK143.out) hkp (fun hs_ => (fun e_ => (Kd.R_ne HO151.out BK143.out (by decide)) e_) hs_)); have n2_ := Aside0.mk (Kd.R_reok rfl hy0 (fun k_ e_ => HO151.out.1 k_ e_)); have n3_ := Aside0.mk (blk_kept (by refine sqt ?_; exact BK152.out) hkp (fun hs_ => (fun e_ => (Kd.R_ne HO151.out BK152.out (by decide)) e_) hs_)); have n4_ := Aside0.mk (hb); clear BK142; clear BK143; clear HO151; clear BK152; clear HB; have BK142 := n0_; have BK143 := n1_; have HO151 := n2_; have BK152 := n3_; have HB := n4_; clear n0_ n1_ n2_ n3_ n4_; (try clear hb); (try clear hkp); (try clear hy0); obtain ⟨hcz54_0, hcz54_1, hfz54_0, hfz54_1⟩ := sqc2 BK152; obtain ⟨hcz55_0, hcz55_1, hfz55_0, hfz55_1⟩ := sqc2 BK143))
          refine bodyPost_ret (results_cell_row rfl _ _ gb143 29 #[.int .i64 t148, .slice Ao49 t149.length co49] (0, 0) _ rfl (by refine sqt ?_; refine blk_put (cs := #[.int .i64 t148, .slice none 0 0]) ?_ 1 _ rfl; refine sqt ?_; refine blk_put (cs := #[.int .i64 0, .slice none 0 0]) ?_ 0 _ rfl; refine sqt ?_; exact BK143.out) Try.underlying29 rfl (by kernel_rfl)) rfl ?_
          exact ⟨_, by first | rfl | (simp [errW_none, errW_some] <;> rfl) | (simp [*, errW_none, errW_some] <;> rfl), by (with_reducible repeat (first | apply Kd.R_alloc | apply Kd.R_drewN | apply Kd.R_drew)); exact Kd.R_mono (Kd.R_far (p := ⟨gb143, 1, none⟩) (Kd.R_far (p := ⟨gb143, 0, none⟩) (Kd.R_types HO151.out BK143.out (by decide)) (fun _ hk => hk.2) (.int .i64 t148)) (fun _ hk => hk.2) (.slice Ao49 t149.length co49)) (fun _ hk => trivial), by repeat (first | (with_reducible first | exact HB.out | apply below_alloc | apply pw_below_drewN | apply below_drew1 | refine below_set ?_ GE142.out | refine below_set ?_ GE143.out | refine below_set ?_ GE152.out) | exact HB.out)⟩
        · rw [if_neg c40] at H
          have c40b0 : decide (a3 < t153) = false := decide_eq_false c40
          clear c40
          simp only [Option.some.injEq, Prod.mk.injEq] at H
          obtain ⟨rfl, rfl⟩ := H
          have hnb56 := NB142_143.out
          have hnc56 := NB143_142.out
          obtain ⟨hcz57_0, hcz57_1, hfz57_0, hfz57_1⟩ := sqc2 BK142
          go_wp2_with (first | ((with_reducible refine gate_callee (f := 83) rfl ?_); refine sqL (some 39) Try.func83 #[.agg #[.int .i64 a0_0, .slice A0_1 l0_1.length c0_1]] ?_; (with_reducible refine (spec_l11Copy.calls kj4 a0_0 _ _ l0_1 t148 t149 _ ?side1 ?side2 A38.out).mono ?_); (case side1 => repeat (first | exact (Kd.C_below HR0_1.out HB.out) | (with_reducible refine Kd.C_alloc ?_ _) | (with_reducible refine Kd.C_drewN ?_ _) | (with_reducible refine Kd.C_drew ?_))); (case side2 => exact HC0_1.out); rintro e w58 ⟨v150, rfl, ho0, hb⟩; refine ⟨_, rfl, ?_⟩; have HO151 := Aside0.mk (Kd.R_lower ho0 (below_size (by repeat (first | (with_reducible first | exact HB.out | apply below_alloc | apply pw_below_drewN | apply below_drew1 | refine below_set ?_ GE142.out | refine below_set ?_ GE143.out) | exact HB.out)))); replace BK142 := sqb BK142 hb; replace BK143 := sqb BK143 hb; replace HB := sqs HB hb; (try clear hb); (try clear hb2); (try clear hk); (try clear hi); (try clear ho0)) | ((with_reducible refine gate_dst (N := 9) rfl ?_); refine sqx 9 #[.int .i64 0, .slice none 0 0] 29 ?_; intro gb152 hg w59 hbox hb; have n0_ := Aside0.mk (Kd.R_below (by (with_reducible repeat (first | apply Kd.R_alloc | apply Kd.R_drewN | apply Kd.R_drew)); exact HO151.out) hb); have n1_ := sqb BK142 hb; have n2_ := sqb BK143 hb; have n3_ := sqs HB hb; have n4_ := Aside0.mk (hbox); have n5_ := sqg HB hg; have n6_ := sqg HB hg; have n7_ := sqn BK142 hg; have n8_ := sqm BK142 hg; have n9_ := sqn BK143 hg; have n10_ := sqm BK143 hg; clear HO151; clear BK142; clear BK143; clear HB; have HO151 := n0_; have BK142 := n1_; have BK143 := n2_; have HB := n3_; have BK152 := n4_; have GW152 := n5_; have GE152 := n6_; have NB142_152 := n7_; have NB152_142 := n8_; have NB143_152 := n9_; have NB152_143 := n10_; clear n0_ n1_ n2_ n3_ n4_ n5_ n6_ n7_ n8_ n9_ n10_; clear hb hbox hg; have hnb60 := NB152_142.out; have hnc60 := NB142_152.out; have hnb61 := NB152_143.out; have hnc61 := NB143_152.out; obtain ⟨hcz62_0, hcz62_1, hfz62_0, hfz62_1⟩ := sqc2 BK152; obtain ⟨Ao63, co63, eo63⟩ := Kd.R_slice HO151.out; subst eo63; obtain ⟨hcz64_0, hcz64_1, hfz64_0, hfz64_1⟩ := sqc2 BK142) | ((with_reducible refine gate_callee (f := 70) rfl ?_); refine sqL (some 44) Try.func70 #[.agg #[.int .i64 a0_0, .slice A0_1 l0_1.length c0_1], .int .i64 a1, .int .i64 a2] ?_; (with_reducible refine (spec_l11At.calls a0_0 _ _ l0_1 a1 a2 t153 _ ?side1 ?side2 A39.out).mono ?_); (case side1 => exact Kd.C_below HR0_1.out (by repeat (first | (with_reducible first | exact HB.out | apply below_alloc | apply pw_below_drewN | apply below_drew1 | refine below_set ?_ GE142.out | refine below_set ?_ GE143.out | refine below_set ?_ GE152.out) | exact HB.out))); (case side2 => exact HC0_1.out); rintro e w65 ⟨rfl, hb⟩; refine ⟨_, rfl, ?_⟩; have n0_ := Aside0.mk (Kd.R_below (by (with_reducible repeat (first | apply Kd.R_alloc | apply Kd.R_drewN | apply Kd.R_drew)); exact (Kd.R_mono (Kd.R_far (p := ⟨gb152, 1, none⟩) (Kd.R_far (p := ⟨gb152, 0, none⟩) (Kd.R_types HO151.out BK152.out (by decide)) (fun _ hk => hk.2) (.int .i64 t148)) (fun _ hk => hk.2) (.slice Ao63 t149.length co63)) (fun _ h_ => h_.1))) hb); have n1_ := Aside0.mk (blk_below (g := gb142) (o := .cells #[.int .i64 a0_0, .slice A0_1 l0_1.length c0_1] 29 (0, 0)) (by refine sqt ?_; refine blk_far ?_ NB142_152.out _; refine sqt ?_; refine blk_far ?_ NB142_152.out _; refine sqt ?_; exact BK142.out) hb); have n2_ := Aside0.mk (blk_below (g := gb143) (o := .cells #[.int .i64 0, .slice none 0 0] 29 (0, 0)) (by refine sqt ?_; refine blk_far ?_ NB143_152.out _; refine sqt ?_; refine blk_far ?_ NB143_152.out _; refine sqt ?_; exact BK143.out) hb); have n3_ := Aside0.mk (blk_below (g := gb152) (o := .cells #[.int .i64 t148, .slice Ao63 t149.length co63] 29 (0, 0)) (by refine sqt ?_; refine blk_put (cs := #[.int .i64 t148, .slice none 0 0]) ?_ 1 _ rfl; refine sqt ?_; refine blk_put (cs := #[.int .i64 0, .slice none 0 0]) ?_ 0 _ rfl; refine sqt ?_; exact BK152.out) hb); have n4_ := sqs HB hb; clear HO151; clear BK142; clear BK143; clear BK152; clear HB; have HO151 := n0_; have BK142 := n1_; have BK143 := n2_; have BK152 := n3_; have HB := n4_; clear n0_ n1_ n2_ n3_ n4_; (try clear hb); (try clear hb2); (try clear hk); (try clear hi); obtain ⟨hcz66_0, hcz66_1, hfz66_0, hfz66_1⟩ := sqc2 BK152; obtain ⟨hcz67_0, hcz67_1, hfz67_0, hfz67_1⟩ := sqc2 BK143))
          refine bodyPost_ret (results_cell_row rfl _ _ gb143 29 #[.int .i64 t148, .slice Ao63 t149.length co63] (0, 0) _ rfl (by refine sqt ?_; refine blk_put (cs := #[.int .i64 t148, .slice none 0 0]) ?_ 1 _ rfl; refine sqt ?_; refine blk_put (cs := #[.int .i64 0, .slice none 0 0]) ?_ 0 _ rfl; refine sqt ?_; exact BK143.out) Try.underlying29 rfl (by kernel_rfl)) rfl ?_
          exact ⟨_, by first | rfl | (simp [errW_none, errW_some] <;> rfl) | (simp [*, errW_none, errW_some] <;> rfl), by (with_reducible repeat (first | apply Kd.R_alloc | apply Kd.R_drewN | apply Kd.R_drew)); exact Kd.R_mono (Kd.R_far (p := ⟨gb143, 1, none⟩) (Kd.R_far (p := ⟨gb143, 0, none⟩) (Kd.R_types HO151.out BK143.out (by decide)) (fun _ hk => hk.2) (.int .i64 t148)) (fun _ hk => hk.2) (.slice Ao63 t149.length co63)) (fun _ hk => trivial), by repeat (first | (with_reducible first | exact HB.out | apply below_alloc | apply pw_below_drewN | apply below_drew1 | refine below_set ?_ GE142.out | refine below_set ?_ GE143.out | refine below_set ?_ GE152.out) | exact HB.out)⟩

/-! ### impl_Gaps_at: function 75 -/
set_option maxHeartbeats 8000000 in
set_option maxRecDepth 100000 in
theorem impl_Gaps_at.calls (a0_0 : Int) (A0_1 : Option Addr) (c0_1 : Nat) (l0_1 : List Int) (a1 : Int) (a2 : Int) (r : Int) (w : World) (hr0_1 : Kd.C (Kd.int .i64) w A0_1 l0_1.length l0_1) (hc0_1 : l0_1.length ≤ c0_1) (h : impl_Gaps_at.f a0_0 l0_1 a1 a2 = some r) :
    Calls Try.prog 75 #[.agg #[.int .i64 a0_0, .slice A0_1 l0_1.length c0_1], .int .i64 a1, .int .i64 a2] w fun e w' => e = .returned (.int .i64 r) ∧ Below w.heap.size w w' := by
  have hu29 := Try.underlying29
  have HR0_1 := Aside0.mk hr0_1
  have HC0_1 := Aside0.mk hc0_1
  clear hr0_1 hc0_1
  have HB := Aside0.mk (Below.refl w.heap.size w)
  have H : (some (wrap64 ((wrap64 (a1 * (wrap64 (a0_0 + 1)))) + a2))) = some r := h
  clear h
  obtain rfl := Option.some.inj H
  go_enter Try.func75, Try.ntmps75
  go_wp2_with (first | ((with_reducible refine gate_dst (N := 3) rfl ?_); refine sqx 3 #[.int .i64 a0_0, .slice A0_1 l0_1.length c0_1] 29 ?_; intro gb155 hg w4 hbox hb; have BK155 := Aside0.mk (hbox); have GW155 := sqg HB hg; have GE155 := sqg HB hg; replace HB := sqs HB hb; clear hb hbox hg; obtain ⟨hcz5_0, hcz5_1, hfz5_0, hfz5_1⟩ := sqc2 BK155))
  go_ret
  exact sqe HB

end Go.Proofs.Ytmdcgkkkfncieaa.PFnExactGapsCut
