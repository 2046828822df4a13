/- Functions of the program as plain Lean functions, and that calls of them come to what these tell. Conditions: those in each law. -/
import Derived.Test.YtmdcgkkkfncieaaSq
import Derived.Test.YtmdcgkkkfncieaaDFnExactGapsJoin
import Derived.Test.YtmdcgkkkfncieaaQFnExactGapsJoinx0
import Derived.Test.YtmdcgkkkfncieaaQFnExactGapsJoinx1
namespace Go.Proofs.Ytmdcgkkkfncieaa.PFnExactGapsJoin
open Go.RowKit Go.Proofs.Ytmdcgkkkfncieaa.Sq Go.Proofs.YtmdcgkkkfncieaaW.PrintWords Go.Proofs.YtmdcgkkkfncieaaW.PrintLast Go.Proofs.YtmdcgkkkfncieaaW.PrintMore
attribute [local go_sem] max2_int min2_int max_two min_two max_three min_three max_four min_four   -- for this text's walks alone
set_option linter.unusedVariables false
set_option linter.unusedSimpArgs false

/-! ### spec_GapsOk: function 66 -/
theorem spec_GapsOk.mono_l : ∀ k, (∀ y0 y1 y2, LeO (spec_GapsOk.j0 k y0 y1 y2) (spec_GapsOk.j0 (k + 1) y0 y1 y2)) ∧ (∀ y0 y1 y2, LeO (spec_GapsOk.l0 k y0 y1 y2) (spec_GapsOk.l0 (k + 1) y0 y1 y2)) ∧ (∀ y0 y1 y2 y3, LeO (spec_GapsOk.l1 k y0 y1 y2 y3) (spec_GapsOk.l1 (k + 1) y0 y1 y2 y3))
  | 0 => ⟨fun _ _ _ r h => by simp [spec_GapsOk.j0] at h, fun _ _ _ r h => by simp [spec_GapsOk.l0] at h, fun _ _ _ _ r h => by simp [spec_GapsOk.l1] at h⟩
  | k + 1 => by
    obtain ⟨ih0, ih1, ih2⟩ := spec_GapsOk.mono_l k
    refine ⟨?_, ?_, ?_⟩
    · intro y0 y1 y2
      unfold spec_GapsOk.j0
      repeat' first
      | (with_reducible exact ih0 _ _ _)
      | (with_reducible exact ih1 _ _ _)
      | (with_reducible exact ih2 _ _ _ _)
      | (with_reducible exact LeO.refl _)
      | (with_reducible exact LeO.none _)
      | (with_reducible refine LeO.ite ?_ ?_)
      | (with_reducible refine LeO.bind ?_ (fun _ => ?_))
      | exact ih0 _ _ _
      | exact ih1 _ _ _
      | exact ih2 _ _ _ _
      | exact LeO.none _
      | refine LeO.ite ?_ ?_
      | refine LeO.bind ?_ (fun _ => ?_)
    · intro y0 y1 y2
      unfold spec_GapsOk.l0
      repeat' first
      | (with_reducible exact ih0 _ _ _)
      | (with_reducible exact ih1 _ _ _)
      | (with_reducible exact ih2 _ _ _ _)
      | (with_reducible exact LeO.refl _)
      | (with_reducible exact LeO.none _)
      | (with_reducible refine LeO.ite ?_ ?_)
      | (with_reducible refine LeO.bind ?_ (fun _ => ?_))
      | exact ih0 _ _ _
      | exact ih1 _ _ _
      | exact ih2 _ _ _ _
      | exact LeO.none _
      | refine LeO.ite ?_ ?_
      | refine LeO.bind ?_ (fun _ => ?_)
    · intro y0 y1 y2 y3
      unfold spec_GapsOk.l1
      repeat' first
      | (with_reducible exact ih0 _ _ _)
      | (with_reducible exact ih1 _ _ _)
      | (with_reducible exact ih2 _ _ _ _)
      | (with_reducible exact LeO.refl _)
      | (with_reducible exact LeO.none _)
      | (with_reducible refine LeO.ite ?_ ?_)
      | (with_reducible refine LeO.bind ?_ (fun _ => ?_))
      | exact ih0 _ _ _
      | exact ih1 _ _ _
      | exact ih2 _ _ _ _
      | exact LeO.none _
      | refine LeO.ite ?_ ?_
      | refine LeO.bind ?_ (fun _ => ?_)
theorem spec_GapsOk.mono : ∀ a0 a1 k, LeO (spec_GapsOk.f k a0 a1) (spec_GapsOk.f (k + 1) a0 a1) := by
  intro a0 a1 k
  obtain ⟨ih0, ih1, ih2⟩ := spec_GapsOk.mono_l k
  unfold spec_GapsOk.f
  repeat' first
      | (with_reducible exact ih0 _ _ _)
      | (with_reducible exact ih1 _ _ _)
      | (with_reducible exact ih2 _ _ _ _)
      | (with_reducible exact LeO.refl _)
      | (with_reducible exact LeO.none _)
      | (with_reducible refine LeO.ite ?_ ?_)
      | (with_reducible refine LeO.bind ?_ (fun _ => ?_))
      | exact ih0 _ _ _
      | exact ih1 _ _ _
      | exact ih2 _ _ _ _
      | exact LeO.none _
      | refine LeO.ite ?_ ?_
      | refine LeO.bind ?_ (fun _ => ?_)
set_option maxHeartbeats 8000000 in
set_option maxRecDepth 100000 in
theorem spec_GapsOk.calls (k : Nat) (a0_0 : Int) (A0_1 : Option Addr) (c0_1 : Nat) (l0_1 : List Int) (r : Bool) (w : World) (hr0_1 : Kd.C (Kd.int .i64) w A0_1 l0_1.length l0_1) (hc0_1 : l0_1.length ≤ c0_1) (h : spec_GapsOk.f k a0_0 l0_1 = some r) :
    Calls Try.prog 66 #[.agg #[.int .i64 a0_0, .slice A0_1 l0_1.length c0_1]] w fun e w' => e = .returned (.bool r) ∧ Below w.heap.size w w' := by
  have hu29 := Try.underlying29
  have HR0_1 := Aside0.mk hr0_1
  have HC0_1 := Aside0.mk hc0_1
  clear hr0_1 hc0_1
  have HB := Aside0.mk (Below.refl w.heap.size w)
  have H : ((spec_l1In.f a0_0 0 12).bind fun t129 => (if t129 = true then (spec_GapsOk.j0 k ((l0_1.length : Int) != (wrap64 ((wrap64 (a0_0 + 1)) * (wrap64 (a0_0 + 1))))) a0_0 l0_1) else (spec_GapsOk.j0 k true a0_0 l0_1))) = some r := h
  clear h
  have HC2 := Aside0.mk H
  clear H
  go_enter Try.func66, Try.ntmps66
  go_upto_region 1 with (first | ((with_reducible refine gate_dst (N := 1) rfl ?_); (try (refine gate_guard (by rfl) ?_; dsimp only)); refine sqx 1 #[.int .i64 a0_0, .slice A0_1 l0_1.length c0_1] 29 ?_; intro gb128 hg w3 hbox hb; have BK128 := Aside0.mk (hbox); have GW128 := sqg HB hg; have GE128 := sqg HB hg; replace HB := sqs HB hb; clear hb hbox hg))
  (try simp only [Act.put, List.setIfInBounds_toArray, List.set_cons_zero, List.set_cons_succ])
  go_cut [22] (fun v22 wc => ∃ (kq : Nat) (x22_1 : Bool), v22 = .bool x22_1 ∧ Aside0 (spec_GapsOk.j0 kq x22_1 a0_0 l0_1 = some r) ∧ Aside0 (kq ≤ k) ∧ Aside0 (wc.heap[gb128]? = some (.cells #[.int .i64 a0_0, (.slice A0_1 l0_1.length c0_1)] 29 (0, 0))) ∧ Aside0 (Below w.heap.size w wc))
  case first =>
    have H := HC2.out
    clear HC2
    replace H := Option.bind_eq_some_iff.mp H
    obtain ⟨t129, A40, H⟩ := H
    replace H : (if t129 = true then (spec_GapsOk.j0 k ((l0_1.length : Int) != (wrap64 ((wrap64 (a0_0 + 1)) * (wrap64 (a0_0 + 1))))) a0_0 l0_1) else (spec_GapsOk.j0 k true a0_0 l0_1)) = some r := H
    have A4 := Aside0.mk A40
    clear A40
    by_cases c5 : t129 = true
    · subst c5
      have H1 : (spec_GapsOk.j0 k ((l0_1.length : Int) != (wrap64 ((wrap64 (a0_0 + 1)) * (wrap64 (a0_0 + 1))))) a0_0 l0_1) = some r := by rw [if_pos rfl] at H; exact H
      clear H
      have H := H1
      clear H1
      have H' := Aside0.mk H
      clear H
      obtain ⟨hcz6_0, hcz6_1, hfz6_0, hfz6_1⟩ := sqc2 BK128
      go_wp2_with (first | ((with_reducible refine gate_callee (f := 67) rfl ?_); refine sqL (some 8) Try.func67 #[.int .i64 a0_0, .int .i64 0, .int .i64 12] ?_; (with_reducible refine (spec_l1In.calls a0_0 0 12 true _ A4.out).mono ?_); rintro e w' ⟨rfl, ⟨nd, rfl⟩⟩; refine ⟨_, rfl, ?_⟩))
      go_meet
      case rel => exact ⟨_, (((l0_1.length : Int) != (wrap64 ((wrap64 (a0_0 + 1)) * (wrap64 (a0_0 + 1)))))), (by first | rfl | (simp; done) | (simp [*]; done)), H', ⟨by first | omega | exact Nat.le_refl _⟩, sqk BK128, sqh HB⟩
    · replace c5 := Bool.eq_false_iff.mpr c5
      subst c5
      have H1 : (spec_GapsOk.j0 k true a0_0 l0_1) = some r := by rw [if_neg (show ¬ (false = true) by decide)] at H; exact H
      clear H
      have H := H1
      clear H1
      have H' := Aside0.mk H
      clear H
      obtain ⟨hcz7_0, hcz7_1, hfz7_0, hfz7_1⟩ := sqc2 BK128
      go_wp2_with (first | ((with_reducible refine gate_callee (f := 67) rfl ?_); refine sqL (some 8) Try.func67 #[.int .i64 a0_0, .int .i64 0, .int .i64 12] ?_; (with_reducible refine (spec_l1In.calls a0_0 0 12 false _ A4.out).mono ?_); rintro e w' ⟨rfl, ⟨nd, rfl⟩⟩; refine ⟨_, rfl, ?_⟩))
      go_meet
      case rel => exact ⟨_, (true), (by first | rfl | (simp; done) | (simp [*]; done)), H', ⟨by first | omega | exact Nat.le_refl _⟩, sqk BK128, sqh HB⟩
  case rest =>
    clear HC2
    obtain ⟨kq, x22_1, rfl, HA, HJ1, BK128, HB⟩ := hcut
    cases kq with
    | zero => exact absurd HA.out (by simp [spec_GapsOk.j0])
    | succ kj1 =>
      have H := HA.out
      clear HA
      simp only [spec_GapsOk.j0] at H
      by_cases c8 : x22_1 = true
      · subst c8
        have H1 : (some false) = some r := by rw [if_pos rfl] at H; exact H
        clear H
        have H := H1
        clear H1
        obtain rfl := Option.some.inj H
        go_wp2
        go_ret
        exact sqe HB
      · replace c8 := Bool.eq_false_iff.mpr c8
        subst c8
        have H1 : (spec_GapsOk.l0 kj1 0 a0_0 l0_1) = some r := by rw [if_neg (show ¬ (false = true) by decide)] at H; exact H
        clear H
        have H := H1
        clear H1
        have H' := Aside0.mk H
        clear H
        go_wp2
        go_loopg [3] kj1 (fun kq v3 w' => ∃ (x3_2 : Int), v3 = .int .i64 x3_2 ∧ Aside0 (spec_GapsOk.l0 kq x3_2 a0_0 l0_1 = some r) ∧ Aside0 (kq ≤ kj1) ∧ Aside0 (w'.heap[gb128]? = some (.cells #[.int .i64 a0_0, (.slice A0_1 l0_1.length c0_1)] 29 (0, 0))) ∧ Aside0 (Below w.heap.size w w'))
        case atStart => exact ⟨(0), (by first | rfl | (simp; done) | (simp [*]; done)), H', ⟨Nat.le_refl _⟩, sqk BK128, sqh HB⟩
        case round =>
          clear H'
          try clear p2
          try clear c5
          try clear c6
          try clear p6
          try clear c8
          try clear hcz6_0
          try clear hcz6_1
          try clear hcz7_0
          try clear hcz7_1
          try clear hfz6_0
          try clear hfz6_1
          try clear hfz7_0
          try clear hfz7_1
          try clear p2
          try clear p6
          obtain ⟨x3_2, rfl, HA, HK2, BK128, HB⟩ := hrel
          cases gk with
          | zero => exact absurd HA.out (by simp [spec_GapsOk.l0])
          | succ k2 =>
            have H := HA.out
            clear HA
            simp only [spec_GapsOk.l0] at H
            by_cases c9 : x3_2 ≤ a0_0
            · rw [if_pos c9] at H
              have c9b0 : decide (x3_2 ≤ a0_0) = true := decide_eq_true c9
              clear c9
              have H' := Aside0.mk H
              clear H
              obtain ⟨hcz10_0, hcz10_1, hfz10_0, hfz10_1⟩ := sqc2 BK128
              go_wp2
              go_loopg [4] k2 (fun kq v4 w' => ∃ (x4_3 : Int), v4 = .int .i64 x4_3 ∧ Aside0 (spec_GapsOk.l1 kq x3_2 x4_3 a0_0 l0_1 = some r) ∧ Aside0 (kq ≤ k2) ∧ Aside0 (w'.heap[gb128]? = some (.cells #[.int .i64 a0_0, (.slice A0_1 l0_1.length c0_1)] 29 (0, 0))) ∧ Aside0 (Below w.heap.size w w'))
              case atStart => exact ⟨(0), (by first | rfl | (simp; done) | (simp [*]; done)), H', ⟨Nat.le_refl _⟩, sqk BK128, sqh HB⟩
              case round =>
                clear H'
                try clear p2
                try clear c5
                try clear c6
                try clear p6
                try clear c8
                try clear c9
                try clear c9b0
                try clear hcz10_0
                try clear hcz10_1
                try clear hcz6_0
                try clear hcz6_1
                try clear hcz7_0
                try clear hcz7_1
                try clear hfz10_0
                try clear hfz10_1
                try clear hfz6_0
                try clear hfz6_1
                try clear hfz7_0
                try clear hfz7_1
                try clear p2
                try clear p6
                obtain ⟨x4_3, rfl, HA, HK3, BK128, HB⟩ := hrel
                cases gk with
                | zero => exact absurd HA.out (by simp [spec_GapsOk.l1])
                | succ k3 =>
                  have H := HA.out
                  clear HA
                  simp only [spec_GapsOk.l1] at H
                  by_cases c11 : x4_3 ≤ a0_0
                  · rw [if_pos c11] at H
                    have c11b0 : decide (x4_3 ≤ a0_0) = true := decide_eq_true c11
                    clear c11
                    replace H := Option.bind_eq_some_iff.mp H
                    obtain ⟨t130, A120, H⟩ := H
                    replace H : ((spec_l1In.f t130 (-1099511627776) 1099511627776).bind fun t131 => (if t131 = true then (if x3_2 = x4_3 then (if t130 = 0 then (spec_GapsOk.l1 k3 x3_2 (wrap64 (x4_3 + 1)) a0_0 l0_1) else (some false)) else (spec_GapsOk.l1 k3 x3_2 (wrap64 (x4_3 + 1)) a0_0 l0_1)) else (some false))) = some r := H
                    have A12 := Aside0.mk A120
                    clear A120
                    replace H := Option.bind_eq_some_iff.mp H
                    obtain ⟨t131, A130, H⟩ := H
                    replace H : (if t131 = true then (if x3_2 = x4_3 then (if t130 = 0 then (spec_GapsOk.l1 k3 x3_2 (wrap64 (x4_3 + 1)) a0_0 l0_1) else (some false)) else (spec_GapsOk.l1 k3 x3_2 (wrap64 (x4_3 + 1)) a0_0 l0_1)) else (some false)) = some r := H
                    have A13 := Aside0.mk A130
                    clear A130
                    by_cases c14 : t131 = true
                    · subst c14
                      have H1 : (if x3_2 = x4_3 then (if t130 = 0 then (spec_GapsOk.l1 k3 x3_2 (wrap64 (x4_3 + 1)) a0_0 l0_1) else (some false)) else (spec_GapsOk.l1 k3 x3_2 (wrap64 (x4_3 + 1)) a0_0 l0_1)) = some r := by rw [if_pos rfl] at H; exact H
                      clear H
                      have H := H1
                      clear H1
                      by_cases c15 : x3_2 = x4_3
                      · rw [if_pos c15] at H
                        have c15b0 : (x3_2 == x4_3) = true := beq_iff_eq.mpr c15
                        have c15b1 : (x3_2 != x4_3) = false := bne_eq_false_iff_eq.mpr c15
                        clear c15
                        by_cases c16 : t130 = 0
                        · rw [if_pos c16] at H
                          have c16b0 : (t130 == 0) = true := beq_iff_eq.mpr c16
                          have c16b1 : (t130 != 0) = false := bne_eq_false_iff_eq.mpr c16
                          clear c16
                          have H' := Aside0.mk H
                          clear H
                          obtain ⟨hcz17_0, hcz17_1, hfz17_0, hfz17_1⟩ := sqc2 BK128
                          go_wp2_with (first | ((with_reducible refine gate_callee (f := 70) rfl ?_); refine sqL (some 38) Try.func70 #[.agg #[.int .i64 a0_0, .slice A0_1 l0_1.length c0_1], .int .i64 x3_2, .int .i64 x4_3] ?_; (with_reducible refine (spec_l11At.calls a0_0 _ _ l0_1 x3_2 x4_3 t130 _ ?side1 ?side2 A12.out).mono ?_); (case side1 => repeat (first | exact (Kd.C_below HR0_1.out HB.out) | (with_reducible refine Kd.C_alloc ?_ _) | (with_reducible refine Kd.C_drewN ?_ _) | (with_reducible refine Kd.C_drew ?_))); (case side2 => exact HC0_1.out); rintro e w18 ⟨rfl, hb⟩; refine ⟨_, rfl, ?_⟩; replace BK128 := sqb BK128 hb; replace HB := sqs HB hb; (try clear hb)) | ((with_reducible refine gate_callee (f := 67) rfl ?_); refine sqL (some 40) Try.func67 #[.int .i64 t130, .int .i64 (-1099511627776), .int .i64 1099511627776] ?_; (with_reducible refine (spec_l1In.calls t130 (-1099511627776) 1099511627776 true _ A13.out).mono ?_); rintro e w' ⟨rfl, ⟨nd, rfl⟩⟩; refine ⟨_, rfl, ?_⟩))
                          go_roundg k3
                          case measure => have := HJ1.out; have := HK2.out; have := HK3.out; omega
                          case rel => exact ⟨(wrap64 (x4_3 + 1)), (by first | rfl | (simp; done) | (simp [*]; done)), H', ⟨by have := HJ1.out; have := HK2.out; have := HK3.out; omega⟩, sqk BK128, sqh HB⟩
                        · rw [if_neg c16] at H
                          have c16b0 : (t130 == 0) = false := beq_eq_false_iff_ne.mpr c16
                          have c16b1 : (t130 != 0) = true := bne_iff_ne.mpr c16
                          obtain rfl := Option.some.inj H
                          obtain ⟨hcz19_0, hcz19_1, hfz19_0, hfz19_1⟩ := sqc2 BK128
                          go_wp2_with (first | ((with_reducible refine gate_callee (f := 70) rfl ?_); refine sqL (some 38) Try.func70 #[.agg #[.int .i64 a0_0, .slice A0_1 l0_1.length c0_1], .int .i64 x3_2, .int .i64 x4_3] ?_; (with_reducible refine (spec_l11At.calls a0_0 _ _ l0_1 x3_2 x4_3 t130 _ ?side1 ?side2 A12.out).mono ?_); (case side1 => repeat (first | exact (Kd.C_below HR0_1.out HB.out) | (with_reducible refine Kd.C_alloc ?_ _) | (with_reducible refine Kd.C_drewN ?_ _) | (with_reducible refine Kd.C_drew ?_))); (case side2 => exact HC0_1.out); rintro e w20 ⟨rfl, hb⟩; refine ⟨_, rfl, ?_⟩; replace BK128 := sqb BK128 hb; replace HB := sqs HB hb; (try clear hb)) | ((with_reducible refine gate_callee (f := 67) rfl ?_); refine sqL (some 40) Try.func67 #[.int .i64 t130, .int .i64 (-1099511627776), .int .i64 1099511627776] ?_; (with_reducible refine (spec_l1In.calls t130 (-1099511627776) 1099511627776 true _ A13.out).mono ?_); rintro e w' ⟨rfl, ⟨nd, rfl⟩⟩; refine ⟨_, rfl, ?_⟩))
                          go_ret
                          exact sqe HB
                      · rw [if_neg c15] at H
                        have c15b0 : (x3_2 == x4_3) = false := beq_eq_false_iff_ne.mpr c15
                        have c15b1 : (x3_2 != x4_3) = true := bne_iff_ne.mpr c15
                        have H' := Aside0.mk H
                        clear H
                        obtain ⟨hcz21_0, hcz21_1, hfz21_0, hfz21_1⟩ := sqc2 BK128
                        go_wp2_with (first | ((with_reducible refine gate_callee (f := 70) rfl ?_); refine sqL (some 38) Try.func70 #[.agg #[.int .i64 a0_0, .slice A0_1 l0_1.length c0_1], .int .i64 x3_2, .int .i64 x4_3] ?_; (with_reducible refine (spec_l11At.calls a0_0 _ _ l0_1 x3_2 x4_3 t130 _ ?side1 ?side2 A12.out).mono ?_); (case side1 => repeat (first | exact (Kd.C_below HR0_1.out HB.out) | (with_reducible refine Kd.C_alloc ?_ _) | (with_reducible refine Kd.C_drewN ?_ _) | (with_reducible refine Kd.C_drew ?_))); (case side2 => exact HC0_1.out); rintro e w22 ⟨rfl, hb⟩; refine ⟨_, rfl, ?_⟩; replace BK128 := sqb BK128 hb; replace HB := sqs HB hb; (try clear hb)) | ((with_reducible refine gate_callee (f := 67) rfl ?_); refine sqL (some 40) Try.func67 #[.int .i64 t130, .int .i64 (-1099511627776), .int .i64 1099511627776] ?_; (with_reducible refine (spec_l1In.calls t130 (-1099511627776) 1099511627776 true _ A13.out).mono ?_); rintro e w' ⟨rfl, ⟨nd, rfl⟩⟩; refine ⟨_, rfl, ?_⟩))
                        go_roundg k3
                        case measure => have := HJ1.out; have := HK2.out; have := HK3.out; omega
                        case rel => exact ⟨(wrap64 (x4_3 + 1)), (by first | rfl | (simp; done) | (simp [*]; done)), H', ⟨by have := HJ1.out; have := HK2.out; have := HK3.out; omega⟩, sqk BK128, sqh HB⟩
                    · replace c14 := Bool.eq_false_iff.mpr c14
                      subst c14
                      have H1 : (some false) = some r := by rw [if_neg (show ¬ (false = true) by decide)] at H; exact H
                      clear H
                      have H := H1
                      clear H1
                      obtain rfl := Option.some.inj H
                      obtain ⟨hcz23_0, hcz23_1, hfz23_0, hfz23_1⟩ := sqc2 BK128
                      go_wp2_with (first | ((with_reducible refine gate_callee (f := 70) rfl ?_); refine sqL (some 38) Try.func70 #[.agg #[.int .i64 a0_0, .slice A0_1 l0_1.length c0_1], .int .i64 x3_2, .int .i64 x4_3] ?_; (with_reducible refine (spec_l11At.calls a0_0 _ _ l0_1 x3_2 x4_3 t130 _ ?side1 ?side2 A12.out).mono ?_); (case side1 => repeat (first | exact (Kd.C_below HR0_1.out HB.out) | (with_reducible refine Kd.C_alloc ?_ _) | (with_reducible refine Kd.C_drewN ?_ _) | (with_reducible refine Kd.C_drew ?_))); (case side2 => exact HC0_1.out); rintro e w24 ⟨rfl, hb⟩; refine ⟨_, rfl, ?_⟩; replace BK128 := sqb BK128 hb; replace HB := sqs HB hb; (try clear hb)) | ((with_reducible refine gate_callee (f := 67) rfl ?_); refine sqL (some 40) Try.func67 #[.int .i64 t130, .int .i64 (-1099511627776), .int .i64 1099511627776] ?_; (with_reducible refine (spec_l1In.calls t130 (-1099511627776) 1099511627776 false _ A13.out).mono ?_); rintro e w' ⟨rfl, ⟨nd, rfl⟩⟩; refine ⟨_, rfl, ?_⟩))
                      go_ret
                      exact sqe HB
                  · rw [if_neg c11] at H
                    have c11b0 : decide (x4_3 ≤ a0_0) = false := decide_eq_false c11
                    clear c11
                    have H' := Aside0.mk H
                    clear H
                    obtain ⟨hcz25_0, hcz25_1, hfz25_0, hfz25_1⟩ := sqc2 BK128
                    go_wp2
                    go_roundg k3
                    case measure => have := HJ1.out; have := HK2.out; have := HK3.out; omega
                    case rel => exact ⟨(wrap64 (x3_2 + 1)), (by first | rfl | (simp; done) | (simp [*]; done)), H', ⟨by have := HJ1.out; have := HK2.out; have := HK3.out; omega⟩, sqk BK128, sqh HB⟩
            · rw [if_neg c9] at H
              have c9b0 : decide (x3_2 ≤ a0_0) = false := decide_eq_false c9
              clear c9
              obtain rfl := Option.some.inj H
              obtain ⟨hcz26_0, hcz26_1, hfz26_0, hfz26_1⟩ := sqc2 BK128
              go_wp2
              go_ret
              exact sqe HB

/-! ### spec_l11Two: function 77 -/
theorem spec_l11Two.mono : ∀ a0 a1 a2 a3 k, LeO (spec_l11Two.f k a0 a1 a2 a3) (spec_l11Two.f (k + 1) a0 a1 a2 a3) := by
  intro a0 a1 a2 a3 k
  unfold spec_l11Two.f
  repeat' first
      | (with_reducible exact spec_GapsOk.mono _ _ _)
      | (with_reducible exact LeO.refl _)
      | (with_reducible exact LeO.none _)
      | (with_reducible refine LeO.ite ?_ ?_)
      | (with_reducible refine LeO.bind ?_ (fun _ => ?_))
      | exact spec_GapsOk.mono _ _ _
      | exact LeO.none _
      | refine LeO.ite ?_ ?_
      | refine LeO.bind ?_ (fun _ => ?_)
set_option maxHeartbeats 8000000 in
set_option maxRecDepth 100000 in
theorem spec_l11Two.calls (k : Nat) (a0_0 : Int) (A0_1 : Option Addr) (c0_1 : Nat) (l0_1 : List Int) (a1_0 : Int) (A1_1 : Option Addr) (c1_1 : Nat) (l1_1 : List Int) (r : Bool) (w : World) (hr0_1 : Kd.C (Kd.int .i64) w A0_1 l0_1.length l0_1) (hc0_1 : l0_1.length ≤ c0_1) (hr1_1 : Kd.C (Kd.int .i64) w A1_1 l1_1.length l1_1) (hc1_1 : l1_1.length ≤ c1_1) (h : spec_l11Two.f k a0_0 l0_1 a1_0 l1_1 = some r) :
    Calls Try.prog 77 #[.agg #[.int .i64 a0_0, .slice A0_1 l0_1.length c0_1], .agg #[.int .i64 a1_0, .slice A1_1 l1_1.length c1_1]] w fun e w' => e = .returned (.bool r) ∧ Below w.heap.size w w' := by
  have hu29 := Try.underlying29
  have HR0_1 := Aside0.mk hr0_1
  have HC0_1 := Aside0.mk hc0_1
  clear hr0_1 hc0_1
  have HR1_1 := Aside0.mk hr1_1
  have HC1_1 := Aside0.mk hc1_1
  clear hr1_1 hc1_1
  have HB := Aside0.mk (Below.refl w.heap.size w)
  have H : ((spec_GapsOk.f k a0_0 l0_1).bind fun t134 => (if t134 = true then ((spec_GapsOk.f k a1_0 l1_1).bind fun t135 => (if t135 = true then (some (a0_0 == a1_0)) else (some false))) else (some false))) = some r := h
  clear h
  replace H := Option.bind_eq_some_iff.mp H
  obtain ⟨t134, A30, H⟩ := H
  replace H : (if t134 = true then ((spec_GapsOk.f k a1_0 l1_1).bind fun t135 => (if t135 = true then (some (a0_0 == a1_0)) else (some false))) else (some false)) = some r := H
  have A3 := Aside0.mk A30
  clear A30
  by_cases c4 : t134 = true
  · subst c4
    have H1 : ((spec_GapsOk.f k a1_0 l1_1).bind fun t135 => (if t135 = true then (some (a0_0 == a1_0)) else (some false))) = some r := by rw [if_pos rfl] at H; exact H
    clear H
    have H := H1
    clear H1
    replace H := Option.bind_eq_some_iff.mp H
    obtain ⟨t135, A50, H⟩ := H
    replace H : (if t135 = true then (some (a0_0 == a1_0)) else (some false)) = some r := H
    have A5 := Aside0.mk A50
    clear A50
    by_cases c6 : t135 = true
    · subst c6
      have H1 : (some (a0_0 == a1_0)) = some r := by rw [if_pos rfl] at H; exact H
      clear H
      have H := H1
      clear H1
      obtain rfl := Option.some.inj H
      go_enter Try.func77, Try.ntmps77
      go_wp2_with (first | ((with_reducible refine gate_dst (N := 2) rfl ?_); refine sqx 2 #[.int .i64 a0_0, .slice A0_1 l0_1.length c0_1] 29 ?_; intro gb132 hg w7 hbox hb; have BK132 := Aside0.mk (hbox); have GW132 := sqg HB hg; have GE132 := sqg HB hg; replace HB := sqs HB hb; clear hb hbox hg) | ((with_reducible refine gate_dst (N := 3) rfl ?_); refine sqx 3 #[.int .i64 a1_0, .slice A1_1 l1_1.length c1_1] 29 ?_; intro gb133 hg w8 hbox hb; have BK133 := Aside0.mk (hbox); have GW133 := sqg HB hg; have GE133 := sqg HB hg; have NB132_133 := sqn BK132 hg; have NB133_132 := sqm BK132 hg; replace BK132 := sqb BK132 hb; replace HB := sqs HB hb; clear hb hbox hg; have hnb9 := NB132_133.out; have hnc9 := NB133_132.out; obtain ⟨hcz10_0, hcz10_1, hfz10_0, hfz10_1⟩ := sqc2 BK132) | ((with_reducible refine gate_callee (f := 66) rfl ?_); refine sqL (some 6) Try.func66 #[.agg #[.int .i64 a0_0, .slice A0_1 l0_1.length c0_1]] ?_; (with_reducible refine (spec_GapsOk.calls k a0_0 _ _ l0_1 true _ ?side1 ?side2 A3.out).mono ?_); (case side1 => repeat (first | exact (Kd.C_below HR0_1.out HB.out) | (with_reducible refine Kd.C_alloc ?_ _) | (with_reducible refine Kd.C_drewN ?_ _) | (with_reducible refine Kd.C_drew ?_))); (case side2 => exact HC0_1.out); rintro e w11 ⟨rfl, hb⟩; refine ⟨_, rfl, ?_⟩; replace BK132 := sqb BK132 hb; replace BK133 := sqb BK133 hb; replace HB := sqs HB hb; (try clear hb); obtain ⟨hcz12_0, hcz12_1, hfz12_0, hfz12_1⟩ := sqc2 BK133) | (go_at_call 66; (with_reducible refine (spec_GapsOk.calls k a1_0 _ _ l1_1 true _ ?side1 ?side2 A5.out).mono ?_); (case side1 => repeat (first | exact (Kd.C_below HR1_1.out HB.out) | (with_reducible refine Kd.C_alloc ?_ _) | (with_reducible refine Kd.C_drewN ?_ _) | (with_reducible refine Kd.C_drew ?_))); (case side2 => exact HC1_1.out); rintro e w13 ⟨rfl, hb⟩; replace BK132 := sqb BK132 hb; replace BK133 := sqb BK133 hb; replace HB := sqs HB hb; (try clear hb); obtain ⟨hcz14_0, hcz14_1, hfz14_0, hfz14_1⟩ := sqc2 BK132; obtain ⟨hcz15_0, hcz15_1, hfz15_0, hfz15_1⟩ := sqc2 BK133))
      go_ret
      exact sqe HB
    · replace c6 := Bool.eq_false_iff.mpr c6
      subst c6
      have H1 : (some false) = some r := by rw [if_neg (show ¬ (false = true) by decide)] at H; exact H
      clear H
      have H := H1
      clear H1
      obtain rfl := Option.some.inj H
      go_enter Try.func77, Try.ntmps77
      go_wp2_with (first | ((with_reducible refine gate_dst (N := 2) rfl ?_); refine sqx 2 #[.int .i64 a0_0, .slice A0_1 l0_1.length c0_1] 29 ?_; intro gb132 hg w16 hbox hb; have BK132 := Aside0.mk (hbox); have GW132 := sqg HB hg; have GE132 := sqg HB hg; replace HB := sqs HB hb; clear hb hbox hg) | ((with_reducible refine gate_dst (N := 3) rfl ?_); refine sqx 3 #[.int .i64 a1_0, .slice A1_1 l1_1.length c1_1] 29 ?_; intro gb133 hg w17 hbox hb; have BK133 := Aside0.mk (hbox); have GW133 := sqg HB hg; have GE133 := sqg HB hg; have NB132_133 := sqn BK132 hg; have NB133_132 := sqm BK132 hg; replace BK132 := sqb BK132 hb; replace HB := sqs HB hb; clear hb hbox hg; have hnb18 := NB132_133.out; have hnc18 := NB133_132.out; obtain ⟨hcz19_0, hcz19_1, hfz19_0, hfz19_1⟩ := sqc2 BK132) | ((with_reducible refine gate_callee (f := 66) rfl ?_); refine sqL (some 6) Try.func66 #[.agg #[.int .i64 a0_0, .slice A0_1 l0_1.length c0_1]] ?_; (with_reducible refine (spec_GapsOk.calls k a0_0 _ _ l0_1 true _ ?side1 ?side2 A3.out).mono ?_); (case side1 => repeat (first | exact (Kd.C_below HR0_1.out HB.out) | (with_reducible refine Kd.C_alloc ?_ _) | (with_reducible refine Kd.C_drewN ?_ _) | (with_reducible refine Kd.C_drew ?_))); (case side2 => exact HC0_1.out); rintro e w20 ⟨rfl, hb⟩; refine ⟨_, rfl, ?_⟩; replace BK132 := sqb BK132 hb; replace BK133 := sqb BK133 hb; replace HB := sqs HB hb; (try clear hb); obtain ⟨hcz21_0, hcz21_1, hfz21_0, hfz21_1⟩ := sqc2 BK133) | (go_at_call 66; (with_reducible refine (spec_GapsOk.calls k a1_0 _ _ l1_1 false _ ?side1 ?side2 A5.out).mono ?_); (case side1 => repeat (first | exact (Kd.C_below HR1_1.out HB.out) | (with_reducible refine Kd.C_alloc ?_ _) | (with_reducible refine Kd.C_drewN ?_ _) | (with_reducible refine Kd.C_drew ?_))); (case side2 => exact HC1_1.out); rintro e w22 ⟨rfl, hb⟩; replace BK132 := sqb BK132 hb; replace BK133 := sqb BK133 hb; replace HB := sqs HB hb; (try clear hb)))
      go_ret
      exact sqe HB
  · replace c4 := Bool.eq_false_iff.mpr c4
    subst c4
    have H1 : (some false) = some r := by rw [if_neg (show ¬ (false = true) by decide)] at H; exact H
    clear H
    have H := H1
    clear H1
    obtain rfl := Option.some.inj H
    go_enter Try.func77, Try.ntmps77
    go_wp2_with (first | ((with_reducible refine gate_dst (N := 2) rfl ?_); refine sqx 2 #[.int .i64 a0_0, .slice A0_1 l0_1.length c0_1] 29 ?_; intro gb132 hg w23 hbox hb; have BK132 := Aside0.mk (hbox); have GW132 := sqg HB hg; have GE132 := sqg HB hg; replace HB := sqs HB hb; clear hb hbox hg) | ((with_reducible refine gate_dst (N := 3) rfl ?_); refine sqx 3 #[.int .i64 a1_0, .slice A1_1 l1_1.length c1_1] 29 ?_; intro gb133 hg w24 hbox hb; have BK133 := Aside0.mk (hbox); have GW133 := sqg HB hg; have GE133 := sqg HB hg; have NB132_133 := sqn BK132 hg; have NB133_132 := sqm BK132 hg; replace BK132 := sqb BK132 hb; replace HB := sqs HB hb; clear hb hbox hg; have hnb25 := NB132_133.out; have hnc25 := NB133_132.out; obtain ⟨hcz26_0, hcz26_1, hfz26_0, hfz26_1⟩ := sqc2 BK132) | ((with_reducible refine gate_callee (f := 66) rfl ?_); refine sqL (some 6) Try.func66 #[.agg #[.int .i64 a0_0, .slice A0_1 l0_1.length c0_1]] ?_; (with_reducible refine (spec_GapsOk.calls k a0_0 _ _ l0_1 false _ ?side1 ?side2 A3.out).mono ?_); (case side1 => repeat (first | exact (Kd.C_below HR0_1.out HB.out) | (with_reducible refine Kd.C_alloc ?_ _) | (with_reducible refine Kd.C_drewN ?_ _) | (with_reducible refine Kd.C_drew ?_))); (case side2 => exact HC0_1.out); rintro e w27 ⟨rfl, hb⟩; refine ⟨_, rfl, ?_⟩; replace BK132 := sqb BK132 hb; replace BK133 := sqb BK133 hb; replace HB := sqs HB hb; (try clear hb)))
    go_ret
    exact sqe HB

/-! ### spec_l8Max: function 81 -/
set_option maxHeartbeats 8000000 in
set_option maxRecDepth 100000 in
theorem spec_l8Max.calls (a0 : Int) (a1 : Int) (r : Int) (w : World) (h : spec_l8Max.f a0 a1 = some r) :
    Calls Try.prog 81 #[.int .i64 a0, .int .i64 a1] w fun e w' => e = .returned (.int .i64 r) ∧ Drawn0 w w' := by
  have H : (if a0 > a1 then (some a0) else (some a1)) = some r := h
  clear h
  by_cases c3 : a0 > a1
  · rw [if_pos c3] at H
    have c3b0 : decide (a1 < a0) = true := decide_eq_true c3
    clear c3
    obtain rfl := Option.some.inj H
    go_enter Try.func81, Try.ntmps81
    go_wp2
    go_ret
    exact ⟨by first | rfl | (simp; done) | (simp [*]; done), by repeat (first | exact Drawn0.refl _ | apply Drawn0.step)⟩
  · rw [if_neg c3] at H
    have c3b0 : decide (a1 < a0) = false := decide_eq_false c3
    clear c3
    obtain rfl := Option.some.inj H
    go_enter Try.func81, Try.ntmps81
    go_wp2
    go_ret
    exact ⟨by first | rfl | (simp; done) | (simp [*]; done), by repeat (first | exact Drawn0.refl _ | apply Drawn0.step)⟩

/-! ### spec_GapsJoin: function 24 -/
theorem spec_GapsJoin.mono_l : ∀ k, (∀ y0 y1 y2 y3 y4 y5 y6, LeO (spec_GapsJoin.l0 k y0 y1 y2 y3 y4 y5 y6) (spec_GapsJoin.l0 (k + 1) y0 y1 y2 y3 y4 y5 y6))
  | 0 => fun _ _ _ _ _ _ _ r h => by simp [spec_GapsJoin.l0] at h
  | k + 1 => by
    have ih0 := spec_GapsJoin.mono_l k
    · intro y0 y1 y2 y3 y4 y5 y6
      unfold spec_GapsJoin.l0
      repeat' first
      | (with_reducible exact ih0 _ _ _ _ _ _ _)
      | (with_reducible exact spec_l11Two.mono _ _ _ _ _)
      | (with_reducible exact LeO.refl _)
      | (with_reducible exact LeO.none _)
      | (with_reducible refine LeO.ite ?_ ?_)
      | (with_reducible refine LeO.bind ?_ (fun _ => ?_))
      | exact ih0 _ _ _ _ _ _ _
      | exact spec_l11Two.mono _ _ _ _ _
      | exact LeO.none _
      | refine LeO.ite ?_ ?_
      | refine LeO.bind ?_ (fun _ => ?_)
theorem spec_GapsJoin.mono : ∀ a0 a1 a2 a3 k, LeO (spec_GapsJoin.f k a0 a1 a2 a3) (spec_GapsJoin.f (k + 1) a0 a1 a2 a3) := by
  intro a0 a1 a2 a3 k
  have ih0 := spec_GapsJoin.mono_l k
  unfold spec_GapsJoin.f
  repeat' first
      | (with_reducible exact ih0 _ _ _ _ _ _ _)
      | (with_reducible exact spec_l11Two.mono _ _ _ _ _)
      | (with_reducible exact LeO.refl _)
      | (with_reducible exact LeO.none _)
      | (with_reducible refine LeO.ite ?_ ?_)
      | (with_reducible refine LeO.bind ?_ (fun _ => ?_))
      | exact ih0 _ _ _ _ _ _ _
      | exact spec_l11Two.mono _ _ _ _ _
      | exact LeO.none _
      | refine LeO.ite ?_ ?_
      | refine LeO.bind ?_ (fun _ => ?_)
def spec_GapsJoin.T7 : Bool × List (List Nat × List Nat) := (true, [([], []), ([0], [0]), ([], []), ([2], [2]), ([], []), ([3, 4], [3, 4]), ([5], [5]), ([], []), ([7], [7]), ([], []), ([8, 9], [8, 9]), ([10], [10]), ([6, 11], [6, 11]), ([12], [12]), ([1, 13, 12], [1, 13]), ([0, 1, 2, 3, 4, 5, 6, 7, 8, 9, 10, 11, 12, 13, 14], []), ([15, 14, 14, 0, 1, 2, 3, 4, 5, 6, 7, 8, 9, 10, 11, 12, 13, 14], [14, 15])])
def spec_GapsJoin.B7 : List Nat := [0, 1, 0, 4, 0, 28, 60, 0, 128, 0, 896, 1920, 4092, 8188, 16383, 32767, 65535]
theorem spec_GapsJoin.tab7 : rtab .any (opsOf Try.f24 7) = spec_GapsJoin.T7 := by kernel_rfl
theorem spec_GapsJoin.bits7 : waitsOk spec_GapsJoin.T7.2 spec_GapsJoin.B7 = true := by kernel_rfl
set_option maxHeartbeats 8000000 in
set_option maxRecDepth 100000 in
theorem spec_GapsJoin.calls (k : Nat) (a0_0 : Int) (A0_1 : Option Addr) (c0_1 : Nat) (l0_1 : List Int) (a1_0 : Int) (A1_1 : Option Addr) (c1_1 : Nat) (l1_1 : List Int) (r1 : Int) (r2 : List Int) (w : World) (hr0_1 : Kd.C (Kd.int .i64) w A0_1 l0_1.length l0_1) (hc0_1 : l0_1.length ≤ c0_1) (hr1_1 : Kd.C (Kd.int .i64) w A1_1 l1_1.length l1_1) (hc1_1 : l1_1.length ≤ c1_1) (h : spec_GapsJoin.f k a0_0 l0_1 a1_0 l1_1 = some (r1, r2)) :
    Calls Try.prog 24 #[.agg #[.int .i64 a0_0, .slice A0_1 l0_1.length c0_1], .agg #[.int .i64 a1_0, .slice A1_1 l1_1.length c1_1]] w fun e w' => ∃ v1_ : Value, e = .returned (.agg #[.int .i64 r1, v1_]) ∧ Kd.R (Kd.int .i64) 3 w' w.heap.size (fun _ => True) v1_ r2 ∧ Below w.heap.size w w' := by
  have hu29 := Try.underlying29
  have HR0_1 := Aside0.mk hr0_1
  have HC0_1 := Aside0.mk hc0_1
  clear hr0_1 hc0_1
  have HR1_1 := Aside0.mk hr1_1
  have HC1_1 := Aside0.mk hc1_1
  clear hr1_1 hc1_1
  have HB := Aside0.mk (Below.refl w.heap.size w)
  have H : ((spec_l11Two.f k a0_0 l0_1 a1_0 l1_1).bind fun t139 => (if t139 = true then (spec_GapsJoin.l0 k 0 a0_0 l0_1 a1_0 l1_1 a0_0 ([] : List Int)) else (some (0, ([] : List Int))))) = some (r1, r2) := h
  clear h
  replace H := Option.bind_eq_some_iff.mp H
  obtain ⟨t139, A30, H⟩ := H
  replace H : (if t139 = true then (spec_GapsJoin.l0 k 0 a0_0 l0_1 a1_0 l1_1 a0_0 ([] : List Int)) else (some (0, ([] : List Int)))) = some (r1, r2) := H
  have A3 := Aside0.mk A30
  clear A30
  by_cases c4 : t139 = true
  · subst c4
    have H1 : (spec_GapsJoin.l0 k 0 a0_0 l0_1 a1_0 l1_1 a0_0 ([] : List Int)) = some (r1, r2) := by rw [if_pos rfl] at H; exact H
    clear H
    have H := H1
    clear H1
    have H' := Aside0.mk H
    clear H
    go_enter Try.func24, Try.ntmps24
    go_wp2_with (first | ((with_reducible refine gate_dst (N := 2) rfl ?_); refine sqx 2 #[.int .i64 a0_0, .slice A0_1 l0_1.length c0_1] 29 ?_; intro gb136 hg w5 hbox hb; have BK136 := Aside0.mk (hbox); have GW136 := sqg HB hg; have GE136 := sqg HB hg; replace HB := sqs HB hb; clear hb hbox hg) | ((with_reducible refine gate_dst (N := 3) rfl ?_); refine sqx 3 #[.int .i64 a1_0, .slice A1_1 l1_1.length c1_1] 29 ?_; intro gb137 hg w6 hbox hb; have BK137 := Aside0.mk (hbox); have GW137 := sqg HB hg; have GE137 := sqg HB hg; have NB136_137 := sqn BK136 hg; have NB137_136 := sqm BK136 hg; replace BK136 := sqb BK136 hb; replace HB := sqs HB hb; clear hb hbox hg) | ((with_reducible refine gate_dst (N := 4) rfl ?_); refine sqx 4 #[.int .i64 0, .slice none 0 0] 29 ?_; intro gb138 hg w7 hbox hb; have BK138 := Aside0.mk (hbox); have GW138 := sqg HB hg; have GE138 := sqg HB hg; have NB136_138 := sqn BK136 hg; have NB138_136 := sqm BK136 hg; have NB137_138 := sqn BK137 hg; have NB138_137 := sqm BK137 hg; replace BK136 := sqb BK136 hb; replace BK137 := sqb BK137 hb; replace HB := sqs HB hb; clear hb hbox hg; have hnb8 := NB136_137.out; have hnc8 := NB137_136.out; have hnb9 := NB136_138.out; have hnc9 := NB138_136.out; obtain ⟨hcz10_0, hcz10_1, hfz10_0, hfz10_1⟩ := sqc2 BK136; have hnb11 := NB137_138.out; have hnc11 := NB138_137.out; obtain ⟨hcz12_0, hcz12_1, hfz12_0, hfz12_1⟩ := sqc2 BK137) | ((with_reducible refine gate_callee (f := 77) rfl ?_); refine sqL (some 9) Try.func77 #[.agg #[.int .i64 a0_0, .slice A0_1 l0_1.length c0_1], .agg #[.int .i64 a1_0, .slice A1_1 l1_1.length c1_1]] ?_; (with_reducible refine (spec_l11Two.calls k a0_0 _ _ l0_1 a1_0 _ _ l1_1 true _ ?side1 ?side2 ?side3 ?side4 A3.out).mono ?_); (case side1 => repeat (first | exact (Kd.C_below HR0_1.out HB.out) | (with_reducible refine Kd.C_alloc ?_ _) | (with_reducible refine Kd.C_drewN ?_ _) | (with_reducible refine Kd.C_drew ?_))); (case side2 => exact HC0_1.out); (case side3 => repeat (first | exact (Kd.C_below HR1_1.out HB.out) | (with_reducible refine Kd.C_alloc ?_ _) | (with_reducible refine Kd.C_drewN ?_ _) | (with_reducible refine Kd.C_drew ?_))); (case side4 => exact HC1_1.out); rintro e w13 ⟨rfl, hb⟩; refine ⟨_, rfl, ?_⟩; replace BK136 := sqb BK136 hb; replace BK137 := sqb BK137 hb; replace BK138 := sqb BK138 hb; replace HB := sqs HB hb; (try clear hb); obtain ⟨hcz14_0, hcz14_1, hfz14_0, hfz14_1⟩ := sqc2 BK136) | ((with_reducible refine gate_dst (N := 5) rfl ?_); refine sqx 5 #[.int .i64 0, .slice none 0 0] 29 ?_; intro gb140 hg w15 hbox hb; have BK140 := Aside0.mk (hbox); have GW140 := sqg HB hg; have GE140 := sqg HB hg; have NB136_140 := sqn BK136 hg; have NB140_136 := sqm BK136 hg; have NB137_140 := sqn BK137 hg; have NB140_137 := sqm BK137 hg; have NB138_140 := sqn BK138 hg; have NB140_138 := sqm BK138 hg; replace BK136 := sqb BK136 hb; replace BK137 := sqb BK137 hb; replace BK138 := sqb BK138 hb; replace HB := sqs HB hb; clear hb hbox hg; have hnb16 := NB140_136.out; have hnc16 := NB136_140.out; have hnb17 := NB140_137.out; have hnc17 := NB137_140.out; have hnb18 := NB140_138.out; have hnc18 := NB138_140.out; obtain ⟨hcz19_0, hcz19_1, hfz19_0, hfz19_1⟩ := sqc2 BK140))
    go_loopg [6] k (fun kq v6 w' => ∃ (x6_1 : Int) (x141001_1 : List Int) (u141001 : Value), v6 = .int .i64 x6_1 ∧ Aside0 (spec_GapsJoin.l0 kq x6_1 a0_0 l0_1 a1_0 l1_1 a0_0 x141001_1 = some (r1, r2)) ∧ Aside0 (kq ≤ k) ∧ Aside0 (Kd.R (Kd.int .i64) 3 w' w.heap.size (fun _ => True) u141001 x141001_1) ∧ Aside0 (w'.heap[gb136]? = some (.cells #[.int .i64 a0_0, (.slice A0_1 l0_1.length c0_1)] 29 (0, 0))) ∧ Aside0 (w'.heap[gb137]? = some (.cells #[.int .i64 a1_0, (.slice A1_1 l1_1.length c1_1)] 29 (0, 0))) ∧ Aside0 (w'.heap[gb138]? = some (.cells #[.int .i64 0, (.slice none 0 0)] 29 (0, 0))) ∧ Aside0 (w'.heap[gb140]? = some (.cells #[.int .i64 a0_0, u141001] 29 (0, 0))) ∧ Aside0 (Below w.heap.size w w'))
    case atStart => exact ⟨(0), (([] : List Int)), (.slice none 0 0), (by first | rfl | (simp; done) | (simp [*]; done)), H', ⟨Nat.le_refl _⟩, ⟨by first | exact Kd.R_nil _ _ _ _ _ | exact Kd.N_nil _ _ _ _ _ | exact Kd.V_nil _ _ _ _ _ | exact Kd.Q_nil _ _ _ _ _ | exact Kd.S_nil _ _ _ _ _⟩, ⟨by refine sqt ?_; refine blk_far ?_ NB136_140.out _; refine sqt ?_; refine blk_far ?_ NB136_140.out _; refine sqt ?_; exact BK136.out⟩, ⟨by refine sqt ?_; refine blk_far ?_ NB137_140.out _; refine sqt ?_; refine blk_far ?_ NB137_140.out _; refine sqt ?_; exact BK137.out⟩, ⟨by refine sqt ?_; refine blk_far ?_ NB138_140.out _; refine sqt ?_; refine blk_far ?_ NB138_140.out _; refine sqt ?_; exact BK138.out⟩, ⟨by refine sqt ?_; refine blk_put (cs := #[.int .i64 a0_0, .slice none 0 0]) ?_ 1 _ rfl; refine sqt ?_; refine blk_put (cs := #[.int .i64 0, .slice none 0 0]) ?_ 0 _ rfl; refine sqt ?_; exact BK140.out⟩, sqh HB⟩
    case round =>
      clear H'
      try clear c1
      try clear c2
      try clear p2
      try clear c4
      try clear c7
      try clear c8
      try clear c9
      try clear c11
      try clear c16
      try clear c17
      try clear c18
      try clear hcz10_0
      try clear hcz10_1
      try clear hcz12_0
      try clear hcz12_1
      try clear hcz14_0
      try clear hcz14_1
      try clear hcz19_0
      try clear hcz19_1
      try clear hfz10_0
      try clear hfz10_1
      try clear hfz12_0
      try clear hfz12_1
      try clear hfz14_0
      try clear hfz14_1
      try clear hfz19_0
      try clear hfz19_1
      obtain ⟨x6_1, x141001_1, u141001, rfl, HA, HK1, HO_141001, BK136, BK137, BK138, BK140, HB⟩ := hrel
      cases gk with
      | zero => exact absurd HA.out (by simp [spec_GapsJoin.l0])
      | succ k1 =>
        have H := HA.out
        clear HA
        simp only [spec_GapsJoin.l0] at H
        by_cases c20 : x6_1 < (l0_1.length : Int)
        · rw [if_pos c20] at H
          have c20b0 : decide (x6_1 < (l0_1.length : Int)) = true := decide_eq_true c20
          clear c20
          by_cases c21 : 0 ≤ x6_1
          · rw [if_pos c21] at H
            have c21b0 : decide (0 ≤ x6_1) = true := decide_eq_true c21
            clear c21
            by_cases c22 : x6_1 < (l1_1.length : Int)
            · rw [if_pos c22] at H
              have c22b0 : decide (x6_1 < (l1_1.length : Int)) = true := decide_eq_true c22
              clear c22
              replace H := Option.bind_eq_some_iff.mp H
              obtain ⟨t143, A230, H⟩ := H
              replace H : (if x141001_1.length < 17592186044416 then (spec_GapsJoin.l0 k1 (wrap64 (x6_1 + 1)) a0_0 l0_1 a1_0 l1_1 a0_0 (x141001_1 ++ [t143])) else (none)) = some (r1, r2) := H
              have A23 := Aside0.mk A230
              clear A230
              by_cases c24 : x141001_1.length < 17592186044416
              · rw [if_pos c24] at H
                have LMc24 := Aside0.mk c24
                clear c24
                obtain ⟨y144, hy144⟩ : ∃ y_ : List Int, y_ = (x141001_1 ++ [t143]) := ⟨_, rfl⟩
                replace H : (spec_GapsJoin.l0 k1 (wrap64 (x6_1 + 1)) a0_0 l0_1 a1_0 l1_1 a0_0 y144) = some (r1, r2) := by first | (rw [hy144]; with_reducible exact H) | (have H2_ := (Option.bind_some _ _).symm.trans H; rw [hy144]; with_reducible exact H2_) | (have H2_ := (Option.bind_some _ _).symm.trans H; with_reducible exact H2_) | with_reducible exact H | (rw [hy144]; exact H) | exact H
                have Ny144 := Aside0.mk hy144
                clear hy144
                have H' := Aside0.mk H
                clear H
                have hnb25 := NB136_137.out
                have hnc25 := NB137_136.out
                have hnb26 := NB136_138.out
                have hnc26 := NB138_136.out
                have hnb27 := NB136_140.out
                have hnc27 := NB140_136.out
                obtain ⟨hcz28_0, hcz28_1, hfz28_0, hfz28_1⟩ := sqc2 BK136
                try go_wp2
                replace HO_141001 := Aside0.mk (Kd.R_drew HO_141001.out)
                replace BK136 := Aside0.mk (blk_drew BK136.out)
                replace BK137 := Aside0.mk (blk_drew BK137.out)
                replace BK138 := Aside0.mk (blk_drew BK138.out)
                replace BK140 := Aside0.mk (blk_drew BK140.out)
                replace HB := Aside0.mk (below_drew1 HB.out)
                have p141 : 0 ≤ (x6_1 : Int) := of_decide_eq_true (by first | (with_reducible assumption) | assumption)
                have q141 : x6_1 < (l0_1.length : Int) := of_decide_eq_true (by first | (with_reducible assumption) | assumption)
                obtain ⟨ad141, e141, hx141_0⟩ := Kd.at_int HR0_1.out x6_1 p141 q141
                have hw141_0 := hx141_0
                cases e141
                replace hx141_0 := (HB.out.cell (World.block_lt_of_cell? w _ hx141_0)).trans hx141_0
                replace p141 := eq_true p141
                replace q141 := eq_true q141
                have p142 : 0 ≤ (x6_1 : Int) := of_decide_eq_true (by first | (with_reducible assumption) | assumption)
                have q142 : x6_1 < (l1_1.length : Int) := of_decide_eq_true (by first | (with_reducible assumption) | assumption)
                obtain ⟨ad142, e142, hx142_0⟩ := Kd.at_int HR1_1.out x6_1 p142 q142
                have hw142_0 := hx142_0
                cases e142
                replace hx142_0 := (HB.out.cell (World.block_lt_of_cell? w _ hx142_0)).trans hx142_0
                replace p142 := eq_true p142
                replace q142 := eq_true q142
                refine start_ (n := 17) (S := fun w' => w'.cell? ⟨gb140, 0, none⟩ = some (.int .i64 a0_0) ∧ w'.cell? ⟨gb140, 1, none⟩ = some (u141001) ∧ w'.cell? ⟨gb136, 0, none⟩ = some (.int .i64 a0_0) ∧ w'.cell? ⟨gb136, 1, none⟩ = some (.slice (some ad141) l0_1.length c0_1) ∧ w'.cell? ⟨gb137, 0, none⟩ = some (.int .i64 a1_0) ∧ w'.cell? ⟨gb137, 1, none⟩ = some (.slice (some ad142) l1_1.length c1_1) ∧ w'.cell? (ad141.add (x6_1).toNat) = some (.int .i64 (rd l0_1 x6_1)) ∧ w'.cell? (ad142.add (x6_1).toNat) = some (.int .i64 (rd l1_1 x6_1))) (ds := [16]) #[false, false, false, false, false, false, false, false, false, false, false, false, false, false, false, false, false] (by kernel_rfl) rfl rfl ⟨(blk_cell BK140.out 0).trans rfl, (blk_cell BK140.out 1).trans rfl, (blk_cell BK136.out 0).trans rfl, (blk_cell BK136.out 1).trans rfl, (blk_cell BK137.out 0).trans rfl, (blk_cell BK137.out 1).trans rfl, ((HB.out.cell (World.block_lt_of_cell? w _ hw141_0)).trans hw141_0), ((HB.out.cell (World.block_lt_of_cell? w _ hw142_0)).trans hw142_0)⟩ (fun hHeld => ?_); refine with_tabW spec_GapsJoin.tab7 spec_GapsJoin.bits7 (fun HT_ HW_ => ?_)
                generalize wr.drew = w29 at HO_141001 BK136 BK137 BK138 BK140 HB hx141_0 hx142_0 hHeld ⊢
                refine sqp HT_ 0 22 ?_
                refine sqp HT_ 2 24 ?_
                refine sqp HT_ 4 26 ?_
                refine sqp HT_ 7 29 ?_
                refine sqp HT_ 9 31 ?_
                refine sqw HT_ HW_ 1 23 hHeld ?_
                refine sqw HT_ HW_ 3 25 hHeld ?_
                refine sqp HT_ 5 27 ?_
                refine sqw HT_ HW_ 6 28 hHeld ?_
                refine sqw HT_ HW_ 8 30 hHeld ?_
                refine sqp HT_ 10 32 ?_
                refine sqw HT_ HW_ 11 33 hHeld ?_
                refine sqo HT_ 12 34 (fun K hK => ?_)
                refine sqG Try.func81 #[.int .i64 (rd l0_1 x6_1), .int .i64 (rd l1_1 x6_1)] ?_
                with_reducible refine (spec_l8Max.calls (rd l0_1 x6_1) (rd l1_1 x6_1) t143 _ A23.out).mono ?_
                rintro e w' ⟨rfl, ⟨nd, rfl⟩⟩
                refine ⟨_, rfl, ?_⟩
                refine hK.out _ _ ⟨(blk_cell BK140.out 0).trans rfl, (blk_cell BK140.out 1).trans rfl, (blk_cell BK136.out 0).trans rfl, (blk_cell BK136.out 1).trans rfl, (blk_cell BK137.out 0).trans rfl, (blk_cell BK137.out 1).trans rfl, ((HB.out.cell (World.block_lt_of_cell? w _ hw141_0)).trans hw141_0), ((HB.out.cell (World.block_lt_of_cell? w _ hw142_0)).trans hw142_0)⟩ (fun hHeld => ?_)
                clear hK K
                refine sqnm ?_
                refine sqo HT_ 13 35 (fun K hK => ?_)
                refine value_ (w1 := ?_) (v := ?_) (by rfl) rfl ?_ ?_
                rotate_left 2
                · go_simp
                  constructor
                  · rfl
                  · rfl
                refine hK.out _ _ ⟨(blk_cell (blk_alloc BK140.out _) 0).trans rfl, (blk_cell (blk_alloc BK140.out _) 1).trans rfl, (blk_cell (blk_alloc BK136.out _) 0).trans rfl, (blk_cell (blk_alloc BK136.out _) 1).trans rfl, (blk_cell (blk_alloc BK137.out _) 0).trans rfl, (blk_cell (blk_alloc BK137.out _) 1).trans rfl, (World.cell?_alloc_lt _ _ _ (World.block_lt_of_cell? _ _ (((HB.out.cell (World.block_lt_of_cell? w _ hw141_0)).trans hw141_0)))).trans (((HB.out.cell (World.block_lt_of_cell? w _ hw141_0)).trans hw141_0)), (World.cell?_alloc_lt _ _ _ (World.block_lt_of_cell? _ _ (((HB.out.cell (World.block_lt_of_cell? w _ hw142_0)).trans hw142_0)))).trans (((HB.out.cell (World.block_lt_of_cell? w _ hw142_0)).trans hw142_0))⟩ (fun hHeld => ?_)
                clear hK K
                refine sqnm ?_
                refine sqo HT_ 14 36 (fun K hK => ?_)
                refine Kd.R_append_step (Kd.int .i64) (w0 := w) w.heap.size (by rfl) (.tmp 23) (.tmp 35) 22 3 (.int .i64 0) 8 rfl Try.underlying22 info3 rfl (by decide) (by omega) u141001 x141001_1 t143 [.int .i64 t143] (fun _ => True) (fun _ => False) rfl rfl ?aP (fun _ hk => hk.elim) ?aF ?aO ?aB ?aS ?aL ?_
                (case aP => exact rfl)
                (case aB => exact (by repeat (first | (with_reducible first | exact HB.out | apply below_alloc | apply pw_below_drewN | apply below_drew1 | refine below_set ?_ GE136.out | refine below_set ?_ GE137.out | refine below_set ?_ GE138.out | refine below_set ?_ GE140.out) | exact HB.out)))
                (case aF => exact (fun _ _ => trivial))
                (case aO => exact (by (with_reducible repeat (first | apply Kd.R_alloc | apply Kd.R_drewN | apply Kd.R_drew)); exact HO_141001.out))
                (case aS => exact (below_size (by repeat (first | (with_reducible first | exact HB.out | apply below_alloc | apply pw_below_drewN | apply below_drew1 | refine below_set ?_ GE136.out | refine below_set ?_ GE137.out | refine below_set ?_ GE138.out | refine below_set ?_ GE140.out) | exact HB.out))))
                (case aL => have := LMc24.out; omega)
                intro v145 w30 ho hb hg hat
                rw [← Ny144.out] at ho
                have n0_ := Aside0.mk (blk_grown (g := gb136) (o := .cells #[.int .i64 a0_0, .slice (some ad141) l0_1.length c0_1] 29 (0, 0)) (by refine sqt ?_; exact BK136.out) hg (Kd.R_ne HO_141001.out BK136.out (by decide)))
                have n1_ := Aside0.mk (blk_grown (g := gb137) (o := .cells #[.int .i64 a1_0, .slice (some ad142) l1_1.length c1_1] 29 (0, 0)) (by refine sqt ?_; exact BK137.out) hg (Kd.R_ne HO_141001.out BK137.out (by decide)))
                have n2_ := Aside0.mk (blk_grown (g := gb138) (o := .cells #[.int .i64 0, .slice none 0 0] 29 (0, 0)) (by refine sqt ?_; exact BK138.out) hg (Kd.R_ne HO_141001.out BK138.out (by decide)))
                have n3_ := Aside0.mk (blk_grown (g := gb140) (o := .cells #[.int .i64 a0_0, u141001] 29 (0, 0)) (by refine sqt ?_; exact BK140.out) hg (Kd.R_ne HO_141001.out BK140.out (by decide)))
                have n4_ := Aside0.mk (hb)
                have n5_ := Aside0.mk (ho)
                clear BK136
                clear BK137
                clear BK138
                clear BK140
                clear HB
                clear HO_141001
                have BK136 := n0_
                have BK137 := n1_
                have BK138 := n2_
                have BK140 := n3_
                have HB := n4_
                have HO146 := n5_
                clear n0_ n1_ n2_ n3_ n4_ n5_
                clear ho hb hg hat
                obtain ⟨Ao31, co31, eo31⟩ := Kd.R_slice HO146.out
                (first | subst eo31 | (injection eo31 with f1_ f2_ f3_; have f4_ := f1_.symm; have f5_ := f3_.symm; clear f1_ f2_ f3_; subst f4_; subst f5_))
                refine hK.out _ _ ⟨(blk_cell BK140.out 0).trans rfl, (blk_cell BK140.out 1).trans rfl, (blk_cell BK136.out 0).trans rfl, (blk_cell BK136.out 1).trans rfl, (blk_cell BK137.out 0).trans rfl, (blk_cell BK137.out 1).trans rfl, ((HB.out.cell (World.block_lt_of_cell? w _ hw141_0)).trans hw141_0), ((HB.out.cell (World.block_lt_of_cell? w _ hw142_0)).trans hw142_0)⟩ (fun hHeld => ?_)
                clear hK K
                refine sqnm ?_
                refine sqp HT_ 15 37 ?_
                refine last_ (i := 16) (N := none) #[true, true, true, true, true, true, true, true, true, true, true, true, true, true, true, true, true] rfl rfl (one_of HT_.out (by kernel_rfl)) (by decide) (fun K hK => ?_)
                have hs32 : w30.cell? ⟨gb140, 1, none⟩ = some (u141001) := (blk_cell BK140.out 1).trans rfl
                have hfs32 := blk_frozen BK140.out 1
                have hns32_0 := NB136_140.out
                have hns32_1 := NB137_140.out
                have hns32_2 := NB138_140.out
                have hms32_0 := NB140_136.out
                have hms32_1 := NB140_137.out
                have hms32_2 := NB140_138.out
                refine skip_ (w1 := ?_) (by rfl) rfl ?_ ?_
                rotate_left
                · go_simp
                  rfl
                refine hK.out _ _ ?_
                clear hK K
                refine done_ (done_of HT_.out (by kernel_rfl)) ?_
                try go_wp2
                go_roundg k1
                case measure => have := HK1.out; omega
                case rel => exact ⟨(wrap64 (x6_1 + 1)), (y144), (.slice Ao31 y144.length co31), (by first | rfl | (simp; done) | (simp [*]; done)), H', ⟨by have := HK1.out; omega⟩, ⟨by (with_reducible repeat (first | apply Kd.R_alloc | apply Kd.R_drewN | apply Kd.R_drew)); exact Kd.R_mono (Kd.R_far (p := ⟨gb140, 1, none⟩) (Kd.R_types HO146.out BK140.out (by decide)) (fun _ hk => hk.2) (.slice Ao31 y144.length co31)) (fun _ hk => trivial)⟩, ⟨by refine sqt ?_; refine blk_far ?_ NB136_140.out _; refine sqt ?_; exact BK136.out⟩, ⟨by refine sqt ?_; refine blk_far ?_ NB137_140.out _; refine sqt ?_; exact BK137.out⟩, ⟨by refine sqt ?_; refine blk_far ?_ NB138_140.out _; refine sqt ?_; exact BK138.out⟩, ⟨by refine sqt ?_; refine blk_put (cs := #[.int .i64 a0_0, u141001]) ?_ 1 _ rfl; refine sqt ?_; exact BK140.out⟩, sqh HB⟩
              · rw [if_neg c24] at H
                exact absurd H (by simp)
            · rw [if_neg c22] at H
              exact absurd H (by simp)
          · rw [if_neg c21] at H
            exact absurd H (by simp)
        · rw [if_neg c20] at H
          have c20b0 : decide (x6_1 < (l0_1.length : Int)) = false := decide_eq_false c20
          clear c20
          simp only [Option.some.injEq, Prod.mk.injEq] at H
          obtain ⟨rfl, rfl⟩ := H
          have hnb33 := NB136_137.out
          have hnc33 := NB137_136.out
          have hnb34 := NB136_138.out
          have hnc34 := NB138_136.out
          have hnb35 := NB136_140.out
          have hnc35 := NB140_136.out
          obtain ⟨hcz36_0, hcz36_1, hfz36_0, hfz36_1⟩ := sqc2 BK136
          have hnb37 := NB140_137.out
          have hnc37 := NB137_140.out
          have hnb38 := NB140_138.out
          have hnc38 := NB138_140.out
          obtain ⟨hcz39_0, hcz39_1, hfz39_0, hfz39_1⟩ := sqc2 BK140
          have hnb40 := NB138_137.out
          have hnc40 := NB137_138.out
          obtain ⟨hcz41_0, hcz41_1, hfz41_0, hfz41_1⟩ := sqc2 BK138
          obtain ⟨Ao42, co42, eo42⟩ := Kd.R_slice HO_141001.out
          subst eo42
          go_wp2
          refine bodyPost_ret (results_cell_row rfl _ _ gb138 29 #[.int .i64 a0_0, .slice Ao42 x141001_1.length co42] (0, 0) _ rfl (by refine sqt ?_; refine blk_put (cs := #[.int .i64 a0_0, .slice none 0 0]) ?_ 1 _ rfl; refine sqt ?_; refine blk_put (cs := #[.int .i64 0, .slice none 0 0]) ?_ 0 _ rfl; refine sqt ?_; exact BK138.out) Try.underlying29 rfl (by kernel_rfl)) rfl ?_
          exact ⟨_, by first | rfl | (simp [errW_none, errW_some] <;> rfl) | (simp [*, errW_none, errW_some] <;> rfl), by (with_reducible repeat (first | apply Kd.R_alloc | apply Kd.R_drewN | apply Kd.R_drew)); exact Kd.R_mono (Kd.R_far (p := ⟨gb138, 1, none⟩) (Kd.R_far (p := ⟨gb138, 0, none⟩) (Kd.R_types HO_141001.out BK138.out (by decide)) (fun _ hk => hk.2) (.int .i64 a0_0)) (fun _ hk => hk.2) (.slice Ao42 x141001_1.length co42)) (fun _ hk => trivial), by repeat (first | (with_reducible first | exact HB.out | apply below_alloc | apply pw_below_drewN | apply below_drew1 | refine below_set ?_ GE136.out | refine below_set ?_ GE137.out | refine below_set ?_ GE138.out | refine below_set ?_ GE140.out) | exact HB.out)⟩
  · replace c4 := Bool.eq_false_iff.mpr c4
    subst c4
    have H1 : (some (0, ([] : List Int))) = some (r1, r2) := by rw [if_neg (show ¬ (false = true) by decide)] at H; exact H
    clear H
    have H := H1
    clear H1
    simp only [Option.some.injEq, Prod.mk.injEq] at H
    obtain ⟨rfl, rfl⟩ := H
    go_enter Try.func24, Try.ntmps24
    go_wp2_with (first | ((with_reducible refine gate_dst (N := 2) rfl ?_); refine sqx 2 #[.int .i64 a0_0, .slice A0_1 l0_1.length c0_1] 29 ?_; intro gb136 hg w43 hbox hb; have BK136 := Aside0.mk (hbox); have GW136 := sqg HB hg; have GE136 := sqg HB hg; replace HB := sqs HB hb; clear hb hbox hg) | ((with_reducible refine gate_dst (N := 3) rfl ?_); refine sqx 3 #[.int .i64 a1_0, .slice A1_1 l1_1.length c1_1] 29 ?_; intro gb137 hg w44 hbox hb; have BK137 := Aside0.mk (hbox); have GW137 := sqg HB hg; have GE137 := sqg HB hg; have NB136_137 := sqn BK136 hg; have NB137_136 := sqm BK136 hg; replace BK136 := sqb BK136 hb; replace HB := sqs HB hb; clear hb hbox hg) | ((with_reducible refine gate_dst (N := 4) rfl ?_); refine sqx 4 #[.int .i64 0, .slice none 0 0] 29 ?_; intro gb138 hg w45 hbox hb; have BK138 := Aside0.mk (hbox); have GW138 := sqg HB hg; have GE138 := sqg HB hg; have NB136_138 := sqn BK136 hg; have NB138_136 := sqm BK136 hg; have NB137_138 := sqn BK137 hg; have NB138_137 := sqm BK137 hg; replace BK136 := sqb BK136 hb; replace BK137 := sqb BK137 hb; replace HB := sqs HB hb; clear hb hbox hg; have hnb46 := NB136_137.out; have hnc46 := NB137_136.out; have hnb47 := NB136_138.out; have hnc47 := NB138_136.out; obtain ⟨hcz48_0, hcz48_1, hfz48_0, hfz48_1⟩ := sqc2 BK136; have hnb49 := NB137_138.out; have hnc49 := NB138_137.out; obtain ⟨hcz50_0, hcz50_1, hfz50_0, hfz50_1⟩ := sqc2 BK137) | ((with_reducible refine gate_callee (f := 77) rfl ?_); refine sqL (some 9) Try.func77 #[.agg #[.int .i64 a0_0, .slice A0_1 l0_1.length c0_1], .agg #[.int .i64 a1_0, .slice A1_1 l1_1.length c1_1]] ?_; (with_reducible refine (spec_l11Two.calls k a0_0 _ _ l0_1 a1_0 _ _ l1_1 false _ ?side1 ?side2 ?side3 ?side4 A3.out).mono ?_); (case side1 => repeat (first | exact (Kd.C_below HR0_1.out HB.out) | (with_reducible refine Kd.C_alloc ?_ _) | (with_reducible refine Kd.C_drewN ?_ _) | (with_reducible refine Kd.C_drew ?_))); (case side2 => exact HC0_1.out); (case side3 => repeat (first | exact (Kd.C_below HR1_1.out HB.out) | (with_reducible refine Kd.C_alloc ?_ _) | (with_reducible refine Kd.C_drewN ?_ _) | (with_reducible refine Kd.C_drew ?_))); (case side4 => exact HC1_1.out); rintro e w51 ⟨rfl, hb⟩; refine ⟨_, rfl, ?_⟩; replace BK136 := sqb BK136 hb; replace BK137 := sqb BK137 hb; replace BK138 := sqb BK138 hb; replace HB := sqs HB hb; (try clear hb); obtain ⟨hcz52_0, hcz52_1, hfz52_0, hfz52_1⟩ := sqc2 BK138))
    refine bodyPost_ret (results_cell_row rfl _ _ gb138 29 #[.int .i64 0, .slice none 0 0] (0, 0) _ rfl (by refine sqt ?_; refine blk_put (cs := #[.int .i64 0, .slice none 0 0]) ?_ 1 _ rfl; refine sqt ?_; refine blk_put (cs := #[.int .i64 0, .slice none 0 0]) ?_ 0 _ rfl; refine sqt ?_; exact BK138.out) Try.underlying29 rfl (by kernel_rfl)) rfl ?_
    exact ⟨_, by first | rfl | (simp [errW_none, errW_some] <;> rfl) | (simp [*, errW_none, errW_some] <;> rfl), by first | exact Kd.R_nil _ _ _ _ _ | exact Kd.N_nil _ _ _ _ _ | exact Kd.V_nil _ _ _ _ _ | exact Kd.Q_nil _ _ _ _ _ | exact Kd.S_nil _ _ _ _ _, by repeat (first | (with_reducible first | exact HB.out | apply below_alloc | apply pw_below_drewN | apply below_drew1 | refine below_set ?_ GE136.out | refine below_set ?_ GE137.out | refine below_set ?_ GE138.out) | exact HB.out)⟩

/-! ### impl_Gaps_at: function 75 -/
set_option maxHeartbeats 8000000 in
set_option maxRecDepth 100000 in
theorem impl_Gaps_at.calls (a0_0 : Int) (A0_1 : Option Addr) (c0_1 : Nat) (l0_1 : List Int) (a1 : Int) (a2 : Int) (r : Int) (w : World) (hr0_1 : Kd.C (Kd.int .i64) w A0_1 l0_1.length l0_1) (hc0_1 : l0_1.length ≤ c0_1) (h : impl_Gaps_at.f a0_0 l0_1 a1 a2 = some r) :
    Calls Try.prog 75 #[.agg #[.int .i64 a0_0, .slice A0_1 l0_1.length c0_1], .int .i64 a1, .int .i64 a2] w fun e w' => e = .returned (.int .i64 r) ∧ Below w.heap.size w w' := by
  have hu29 := Try.underlying29
  have HR0_1 := Aside0.mk hr0_1
  have HC0_1 := Aside0.mk hc0_1
  clear hr0_1 hc0_1
  have HB := Aside0.mk (Below.refl w.heap.size w)
  have H : (some (wrap64 ((wrap64 (a1 * (wrap64 (a0_0 + 1)))) + a2))) = some r := h
  clear h
  obtain rfl := Option.some.inj H
  go_enter Try.func75, Try.ntmps75
  go_wp2_with (first | ((with_reducible refine gate_dst (N := 3) rfl ?_); refine sqx 3 #[.int .i64 a0_0, .slice A0_1 l0_1.length c0_1] 29 ?_; intro gb147 hg w4 hbox hb; have BK147 := Aside0.mk (hbox); have GW147 := sqg HB hg; have GE147 := sqg HB hg; replace HB := sqs HB hb; clear hb hbox hg; obtain ⟨hcz5_0, hcz5_1, hfz5_0, hfz5_1⟩ := sqc2 BK147))
  go_ret
  exact sqe HB

end Go.Proofs.Ytmdcgkkkfncieaa.PFnExactGapsJoin
