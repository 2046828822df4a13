/- Functions of the program as plain Lean functions, and that calls of them come to what these tell. Conditions: those in each law. -/
import Derived.Test.YtkekcenlleebeaaSq
import Derived.Test.YtkekcenlleebeaaDFnGapsBack
import Derived.Test.YtkekcenlleebeaaQFnGapsBackx0
namespace Go.Proofs.Ytkekcenlleebeaa.PFnGapsBack
open Go.RowKit Go.Proofs.Ytkekcenlleebeaa.Sq Go.Proofs.YtkekcenlleebeaaW.PrintWords Go.Proofs.YtkekcenlleebeaaW.PrintLast Go.Proofs.YtkekcenlleebeaaW.PrintMore
attribute [local go_sem] max2_int min2_int max_two min_two max_three min_three max_four min_four   -- for this text's walks alone
set_option linter.unusedVariables false
set_option linter.unusedSimpArgs false

/-! ### impl_Gaps_at: function 118 -/
set_option maxHeartbeats 8000000 in
set_option maxRecDepth 100000 in
theorem impl_Gaps_at.calls (a0_0 : Int) (A0_1 : Option Addr) (c0_1 : Nat) (l0_1 : List Int) (a1 : Int) (a2 : Int) (r : Int) (w : World) (hr0_1 : Kd.C (Kd.int .i64) w A0_1 l0_1.length l0_1) (hc0_1 : l0_1.length ≤ c0_1) (h : impl_Gaps_at.f a0_0 l0_1 a1 a2 = some r) :
    Calls Try.prog 118 #[.agg #[.int .i64 a0_0, .slice A0_1 l0_1.length c0_1], .int .i64 a1, .int .i64 a2] w fun e w' => e = .returned (.int .i64 r) ∧ Below w.heap.size w w' := by
  have hu41 := Try.underlying41
  have HR0_1 := Aside0.mk hr0_1
  have HC0_1 := Aside0.mk hc0_1
  clear hr0_1 hc0_1
  have HB := Aside0.mk (Below.refl w.heap.size w)
  have H : (some (wrap64 ((wrap64 (a1 * (wrap64 (a0_0 + 1)))) + a2))) = some r := h
  clear h
  obtain rfl := Option.some.inj H
  go_enter Try.func118, Try.ntmps118
  go_wp2_with (first | ((with_reducible refine gate_dst (N := 3) rfl ?_); refine sqx 3 #[.int .i64 a0_0, .slice A0_1 l0_1.length c0_1] 41 ?_; intro gb101 hg w4 hbox hb; have BK101 := Aside0.mk (hbox); have GW101 := sqg HB hg; have GE101 := sqg HB hg; replace HB := sqs HB hb; clear hb hbox hg; obtain ⟨hcz5_0, hcz5_1, hfz5_0, hfz5_1⟩ := sqc2 BK101))
  go_ret
  exact sqe HB

/-! ### impl_GapsOk: function 31 -/
theorem impl_GapsOk.mono_l : ∀ k, (∀ y0 y1 y2, LeO (impl_GapsOk.j0 k y0 y1 y2) (impl_GapsOk.j0 (k + 1) y0 y1 y2)) ∧ (∀ y0 y1 y2 y3, LeO (impl_GapsOk.l0 k y0 y1 y2 y3) (impl_GapsOk.l0 (k + 1) y0 y1 y2 y3)) ∧ (∀ y0 y1 y2, LeO (impl_GapsOk.l1 k y0 y1 y2) (impl_GapsOk.l1 (k + 1) y0 y1 y2))
  | 0 => ⟨fun _ _ _ r h => by simp [impl_GapsOk.j0] at h, fun _ _ _ _ r h => by simp [impl_GapsOk.l0] at h, fun _ _ _ r h => by simp [impl_GapsOk.l1] at h⟩
  | k + 1 => by
    obtain ⟨ih0, ih1, ih2⟩ := impl_GapsOk.mono_l k
    refine ⟨?_, ?_, ?_⟩
    · intro y0 y1 y2
      unfold impl_GapsOk.j0
      repeat' first
      | (with_reducible exact ih0 _ _ _)
      | (with_reducible exact ih1 _ _ _ _)
      | (with_reducible exact ih2 _ _ _)
      | (with_reducible exact LeO.refl _)
      | (with_reducible exact LeO.none _)
      | (with_reducible refine LeO.ite ?_ ?_)
      | (with_reducible refine LeO.bind ?_ (fun _ => ?_))
      | exact ih0 _ _ _
      | exact ih1 _ _ _ _
      | exact ih2 _ _ _
      | exact LeO.none _
      | refine LeO.ite ?_ ?_
      | refine LeO.bind ?_ (fun _ => ?_)
    · intro y0 y1 y2 y3
      unfold impl_GapsOk.l0
      repeat' first
      | (with_reducible exact ih0 _ _ _)
      | (with_reducible exact ih1 _ _ _ _)
      | (with_reducible exact ih2 _ _ _)
      | (with_reducible exact LeO.refl _)
      | (with_reducible exact LeO.none _)
      | (with_reducible refine LeO.ite ?_ ?_)
      | (with_reducible refine LeO.bind ?_ (fun _ => ?_))
      | exact ih0 _ _ _
      | exact ih1 _ _ _ _
      | exact ih2 _ _ _
      | exact LeO.none _
      | refine LeO.ite ?_ ?_
      | refine LeO.bind ?_ (fun _ => ?_)
    · intro y0 y1 y2
      unfold impl_GapsOk.l1
      repeat' first
      | (with_reducible exact ih0 _ _ _)
      | (with_reducible exact ih1 _ _ _ _)
      | (with_reducible exact ih2 _ _ _)
      | (with_reducible exact LeO.refl _)
      | (with_reducible exact LeO.none _)
      | (with_reducible refine LeO.ite ?_ ?_)
      | (with_reducible refine LeO.bind ?_ (fun _ => ?_))
      | exact ih0 _ _ _
      | exact ih1 _ _ _ _
      | exact ih2 _ _ _
      | exact LeO.none _
      | refine LeO.ite ?_ ?_
      | refine LeO.bind ?_ (fun _ => ?_)
theorem impl_GapsOk.mono : ∀ a0 a1 k, LeO (impl_GapsOk.f k a0 a1) (impl_GapsOk.f (k + 1) a0 a1) := by
  intro a0 a1 k
  obtain ⟨ih0, ih1, ih2⟩ := impl_GapsOk.mono_l k
  unfold impl_GapsOk.f
  repeat' first
      | (with_reducible exact ih0 _ _ _)
      | (with_reducible exact ih1 _ _ _ _)
      | (with_reducible exact ih2 _ _ _)
      | (with_reducible exact LeO.refl _)
      | (with_reducible exact LeO.none _)
      | (with_reducible refine LeO.ite ?_ ?_)
      | (with_reducible refine LeO.bind ?_ (fun _ => ?_))
      | exact ih0 _ _ _
      | exact ih1 _ _ _ _
      | exact ih2 _ _ _
      | exact LeO.none _
      | refine LeO.ite ?_ ?_
      | refine LeO.bind ?_ (fun _ => ?_)
def impl_GapsOk.T6 : Bool × List (List Nat × List Nat) := (true, [([], []), ([0], [0]), ([], []), ([], []), ([], []), ([2, 3, 4], [2, 3, 4]), ([1, 5], [1, 5]), ([6], [6]), ([7], [7])])
def impl_GapsOk.B6 : List Nat := [0, 1, 0, 0, 0, 28, 63, 127, 255]
theorem impl_GapsOk.tab6 : rtab .any (opsOf Try.f31 6) = impl_GapsOk.T6 := by kernel_rfl
theorem impl_GapsOk.bits6 : waitsOk impl_GapsOk.T6.2 impl_GapsOk.B6 = true := by kernel_rfl
set_option maxHeartbeats 8000000 in
set_option maxRecDepth 100000 in
theorem impl_GapsOk.calls (k : Nat) (a0_0 : Int) (A0_1 : Option Addr) (c0_1 : Nat) (l0_1 : List Int) (r : Bool) (w : World) (hr0_1 : Kd.C (Kd.int .i64) w A0_1 l0_1.length l0_1) (hc0_1 : l0_1.length ≤ c0_1) (h : impl_GapsOk.f k a0_0 l0_1 = some r) :
    Calls Try.prog 31 #[.agg #[.int .i64 a0_0, .slice A0_1 l0_1.length c0_1]] w fun e w' => e = .returned (.bool r) ∧ Below w.heap.size w w' := by
  have hu41 := Try.underlying41
  have HR0_1 := Aside0.mk hr0_1
  have HC0_1 := Aside0.mk hc0_1
  clear hr0_1 hc0_1
  have HB := Aside0.mk (Below.refl w.heap.size w)
  have H : (if a0_0 < 0 then (impl_GapsOk.j0 k true a0_0 l0_1) else (if a0_0 > 12 then (impl_GapsOk.j0 k true a0_0 l0_1) else (impl_GapsOk.j0 k ((l0_1.length : Int) != (wrap64 ((wrap64 (a0_0 + 1)) * (wrap64 (a0_0 + 1))))) a0_0 l0_1))) = some r := h
  clear h
  have HC2 := Aside0.mk H
  clear H
  go_enter Try.func31, Try.ntmps31
  go_upto_region 1 with (first | ((with_reducible refine gate_dst (N := 1) rfl ?_); (try (refine gate_guard (by rfl) ?_; dsimp only)); refine sqx 1 #[.int .i64 a0_0, .slice A0_1 l0_1.length c0_1] 41 ?_; intro gb102 hg w3 hbox hb; have BK102 := Aside0.mk (hbox); have GW102 := sqg HB hg; have GE102 := sqg HB hg; replace HB := sqs HB hb; clear hb hbox hg))
  (try simp only [Act.put, List.setIfInBounds_toArray, List.set_cons_zero, List.set_cons_succ])
  go_cut [26] (fun v26 wc => ∃ (kq : Nat) (x26_1 : Bool), v26 = .bool x26_1 ∧ Aside0 (impl_GapsOk.j0 kq x26_1 a0_0 l0_1 = some r) ∧ Aside0 (kq ≤ k) ∧ Aside0 (wc.heap[gb102]? = some (.cells #[.int .i64 a0_0, (.slice A0_1 l0_1.length c0_1)] 41 (0, 0))) ∧ Aside0 (Below w.heap.size w wc))
  case first =>
    have H := HC2.out
    clear HC2
    by_cases c4 : a0_0 < 0
    · rw [if_pos c4] at H
      have c4b0 : decide (a0_0 < 0) = true := decide_eq_true c4
      clear c4
      (first | rw [c4b0] | (simp only [i64_w, i32_w]; rw [c4b0]) | skip)
      have H' := Aside0.mk H
      clear H
      obtain ⟨hcz5_0, hcz5_1, hfz5_0, hfz5_1⟩ := sqc2 BK102
      go_wp2
      go_meet
      case rel => exact ⟨_, (true), (by first | rfl | (simp; done) | (simp [*]; done)), H', ⟨by first | omega | exact Nat.le_refl _⟩, sqk BK102, sqh HB⟩
    · rw [if_neg c4] at H
      have c4b0 : decide (a0_0 < 0) = false := decide_eq_false c4
      clear c4
      (first | rw [c4b0] | (simp only [i64_w, i32_w]; rw [c4b0]) | skip)
      by_cases c6 : a0_0 > 12
      · rw [if_pos c6] at H
        have c6b0 : decide (12 < a0_0) = true := decide_eq_true c6
        clear c6
        have H' := Aside0.mk H
        clear H
        obtain ⟨hcz7_0, hcz7_1, hfz7_0, hfz7_1⟩ := sqc2 BK102
        go_wp2
        go_meet
        case rel => exact ⟨_, (true), (by first | rfl | (simp; done) | (simp [*]; done)), H', ⟨by first | omega | exact Nat.le_refl _⟩, sqk BK102, sqh HB⟩
      · rw [if_neg c6] at H
        have c6b0 : decide (12 < a0_0) = false := decide_eq_false c6
        clear c6
        have H' := Aside0.mk H
        clear H
        obtain ⟨hcz8_0, hcz8_1, hfz8_0, hfz8_1⟩ := sqc2 BK102
        go_wp2
        go_meet
        case rel => exact ⟨_, (((l0_1.length : Int) != (wrap64 ((wrap64 (a0_0 + 1)) * (wrap64 (a0_0 + 1)))))), (by first | rfl | (simp; done) | (simp [*]; done)), H', ⟨by first | omega | exact Nat.le_refl _⟩, sqk BK102, sqh HB⟩
  case rest =>
    clear HC2
    obtain ⟨kq, x26_1, rfl, HA, HJ1, BK102, HB⟩ := hcut
    cases kq with
    | zero => exact absurd HA.out (by simp [impl_GapsOk.j0])
    | succ kj1 =>
      have H := HA.out
      clear HA
      simp only [impl_GapsOk.j0] at H
      by_cases c9 : x26_1 = true
      · subst c9
        have H1 : (some false) = some r := by rw [if_pos rfl] at H; exact H
        clear H
        have H := H1
        clear H1
        obtain rfl := Option.some.inj H
        go_wp2
        go_ret
        exact sqe HB
      · replace c9 := Bool.eq_false_iff.mpr c9
        subst c9
        have H1 : (impl_GapsOk.l0 kj1 (wrap64 (a0_0 + 1)) 0 a0_0 l0_1) = some r := by rw [if_neg (show ¬ (false = true) by decide)] at H; exact H
        clear H
        have H := H1
        clear H1
        have H' := Aside0.mk H
        clear H
        obtain ⟨hcz10_0, hcz10_1, hfz10_0, hfz10_1⟩ := sqc2 BK102
        go_wp2
        go_loopg [30] kj1 (fun kq v30 w' => ∃ (x30_2 : Int), v30 = .int .i64 x30_2 ∧ Aside0 (impl_GapsOk.l0 kq (wrap64 (a0_0 + 1)) x30_2 a0_0 l0_1 = some r) ∧ Aside0 (kq ≤ kj1) ∧ Aside0 (w'.heap[gb102]? = some (.cells #[.int .i64 a0_0, (.slice A0_1 l0_1.length c0_1)] 41 (0, 0))) ∧ Aside0 (Below w.heap.size w w'))
        case atStart => exact ⟨(0), (by first | rfl | (simp; done) | (simp [*]; done)), H', ⟨Nat.le_refl _⟩, sqk BK102, sqh HB⟩
        case round =>
          clear H'
          try clear p2
          try clear c3
          try clear c4
          try clear c4b0
          try clear c6
          try clear c6b0
          try clear p6
          try clear c9
          try clear hcz10_0
          try clear hcz10_1
          try clear hcz5_0
          try clear hcz5_1
          try clear hcz7_0
          try clear hcz7_1
          try clear hcz8_0
          try clear hcz8_1
          try clear hfz10_0
          try clear hfz10_1
          try clear hfz5_0
          try clear hfz5_1
          try clear hfz7_0
          try clear hfz7_1
          try clear hfz8_0
          try clear hfz8_1
          try clear p2
          try clear p6
          obtain ⟨x30_2, rfl, HA, HK2, BK102, HB⟩ := hrel
          cases gk with
          | zero => exact absurd HA.out (by simp [impl_GapsOk.l0])
          | succ k2 =>
            have H := HA.out
            clear HA
            simp only [impl_GapsOk.l0] at H
            by_cases c11 : x30_2 < (wrap64 (a0_0 + 1))
            · rw [if_pos c11] at H
              have c11b0 : decide (x30_2 < (wrap64 (a0_0 + 1))) = true := decide_eq_true c11
              clear c11
              replace H := Option.bind_eq_some_iff.mp H
              obtain ⟨t103, A120, H⟩ := H
              replace H : (if 0 ≤ t103 then (if t103 < (l0_1.length : Int) then (if (rd l0_1 t103) = 0 then (impl_GapsOk.l0 k2 (wrap64 (a0_0 + 1)) (wrap64 (x30_2 + 1)) a0_0 l0_1) else (some false)) else (none)) else (none)) = some r := H
              have A12 := Aside0.mk A120
              clear A120
              by_cases c13 : 0 ≤ t103
              · rw [if_pos c13] at H
                have c13b0 : decide (0 ≤ t103) = true := decide_eq_true c13
                clear c13
                by_cases c14 : t103 < (l0_1.length : Int)
                · rw [if_pos c14] at H
                  have c14b0 : decide (t103 < (l0_1.length : Int)) = true := decide_eq_true c14
                  clear c14
                  by_cases c15 : (rd l0_1 t103) = 0
                  · rw [if_pos c15] at H
                    have c15b0 : ((rd l0_1 t103) == 0) = true := beq_iff_eq.mpr c15
                    have c15b1 : ((rd l0_1 t103) != 0) = false := bne_eq_false_iff_eq.mpr c15
                    clear c15
                    have H' := Aside0.mk H
                    clear H
                    try go_wp2
                    replace BK102 := Aside0.mk (blk_drew BK102.out)
                    replace HB := Aside0.mk (below_drew1 HB.out)
                    have p104 : 0 ≤ (t103 : Int) := of_decide_eq_true (by first | (with_reducible assumption) | assumption)
                    have q104 : t103 < (l0_1.length : Int) := of_decide_eq_true (by first | (with_reducible assumption) | assumption)
                    obtain ⟨ad104, e104, hx104_0⟩ := Kd.at_int HR0_1.out t103 p104 q104
                    have hw104_0 := hx104_0
                    cases e104
                    replace hx104_0 := (HB.out.cell (World.block_lt_of_cell? w _ hx104_0)).trans hx104_0
                    replace p104 := eq_true p104
                    replace q104 := eq_true q104
                    refine start_ (n := 9) (S := fun w' => w'.cell? ⟨gb102, 0, none⟩ = some (.int .i64 a0_0) ∧ w'.cell? ⟨gb102, 1, none⟩ = some (.slice (some ad104) l0_1.length c0_1) ∧ w'.cell? (ad104.add (t103).toNat) = some (.int .i64 (rd l0_1 t103))) (ds := []) #[false, false, false, false, false, false, false, false, false] (by kernel_rfl) rfl rfl ⟨(blk_cell BK102.out 0).trans rfl, (blk_cell BK102.out 1).trans rfl, ((HB.out.cell (World.block_lt_of_cell? w _ hw104_0)).trans hw104_0)⟩ (fun hHeld => ?_); refine with_tabW impl_GapsOk.tab6 impl_GapsOk.bits6 (fun HT_ HW_ => ?_)
                    generalize wr.drew = w16 at BK102 HB hx104_0 hHeld ⊢
                    refine sqp HT_ 0 33 ?_
                    refine sqp HT_ 3 36 ?_
                    refine sqp HT_ 4 37 ?_
                    refine sqw HT_ HW_ 1 34 hHeld ?_
                    refine sqw HT_ HW_ 2 35 hHeld ?_
                    refine sqo HT_ 5 38 (fun K hK => ?_)
                    refine sqG Try.func118 #[.agg #[.int .i64 a0_0, .slice (some ad104) l0_1.length c0_1], .int .i64 x30_2, .int .i64 x30_2] ?_
                    with_reducible refine (impl_Gaps_at.calls a0_0 _ _ l0_1 x30_2 x30_2 t103 _ ?side1 ?side2 A12.out).mono ?_
                    (case side1 => repeat (first | exact (Kd.C_below HR0_1.out HB.out) | (with_reducible refine Kd.C_alloc ?_ _) | (with_reducible refine Kd.C_drewN ?_ _) | (with_reducible refine Kd.C_drew ?_)))
                    (case side2 => exact HC0_1.out)
                    rintro e w17 ⟨rfl, hb⟩
                    refine ⟨_, rfl, ?_⟩
                    replace BK102 := sqb BK102 hb
                    replace HB := sqs HB hb
                    (try clear hb)
                    refine hK.out _ _ ⟨(blk_cell BK102.out 0).trans rfl, (blk_cell BK102.out 1).trans rfl, ((HB.out.cell (World.block_lt_of_cell? w _ hw104_0)).trans hw104_0)⟩ (fun hHeld => ?_)
                    clear hK K
                    refine sqnm ?_
                    refine sqp HT_ 6 39 ?_
                    refine sqw HT_ HW_ 7 40 hHeld ?_
                    refine sqp HT_ 8 41 ?_
                    refine done_ (done_of HT_.out (by kernel_rfl)) ?_
                    try go_wp2
                    go_roundg k2
                    case measure => have := HJ1.out; have := HK2.out; omega
                    case rel => exact ⟨(wrap64 (x30_2 + 1)), (by first | rfl | (simp; done) | (simp [*]; done)), H', ⟨by have := HJ1.out; have := HK2.out; omega⟩, sqk BK102, sqh HB⟩
                  · rw [if_neg c15] at H
                    have c15b0 : ((rd l0_1 t103) == 0) = false := beq_eq_false_iff_ne.mpr c15
                    have c15b1 : ((rd l0_1 t103) != 0) = true := bne_iff_ne.mpr c15
                    obtain rfl := Option.some.inj H
                    try go_wp2
                    replace BK102 := Aside0.mk (blk_drew BK102.out)
                    replace HB := Aside0.mk (below_drew1 HB.out)
                    have p104 : 0 ≤ (t103 : Int) := of_decide_eq_true (by first | (with_reducible assumption) | assumption)
                    have q104 : t103 < (l0_1.length : Int) := of_decide_eq_true (by first | (with_reducible assumption) | assumption)
                    obtain ⟨ad104, e104, hx104_0⟩ := Kd.at_int HR0_1.out t103 p104 q104
                    have hw104_0 := hx104_0
                    cases e104
                    replace hx104_0 := (HB.out.cell (World.block_lt_of_cell? w _ hx104_0)).trans hx104_0
                    replace p104 := eq_true p104
                    replace q104 := eq_true q104
                    refine start_ (n := 9) (S := fun w' => w'.cell? ⟨gb102, 0, none⟩ = some (.int .i64 a0_0) ∧ w'.cell? ⟨gb102, 1, none⟩ = some (.slice (some ad104) l0_1.length c0_1) ∧ w'.cell? (ad104.add (t103).toNat) = some (.int .i64 (rd l0_1 t103))) (ds := []) #[false, false, false, false, false, false, false, false, false] (by kernel_rfl) rfl rfl ⟨(blk_cell BK102.out 0).trans rfl, (blk_cell BK102.out 1).trans rfl, ((HB.out.cell (World.block_lt_of_cell? w _ hw104_0)).trans hw104_0)⟩ (fun hHeld => ?_); refine with_tabW impl_GapsOk.tab6 impl_GapsOk.bits6 (fun HT_ HW_ => ?_)
                    generalize wr.drew = w18 at BK102 HB hx104_0 hHeld ⊢
                    refine sqp HT_ 0 33 ?_
                    refine sqp HT_ 3 36 ?_
                    refine sqp HT_ 4 37 ?_
                    refine sqw HT_ HW_ 1 34 hHeld ?_
                    refine sqw HT_ HW_ 2 35 hHeld ?_
                    refine sqo HT_ 5 38 (fun K hK => ?_)
                    refine sqG Try.func118 #[.agg #[.int .i64 a0_0, .slice (some ad104) l0_1.length c0_1], .int .i64 x30_2, .int .i64 x30_2] ?_
                    with_reducible refine (impl_Gaps_at.calls a0_0 _ _ l0_1 x30_2 x30_2 t103 _ ?side1 ?side2 A12.out).mono ?_
                    (case side1 => repeat (first | exact (Kd.C_below HR0_1.out HB.out) | (with_reducible refine Kd.C_alloc ?_ _) | (with_reducible refine Kd.C_drewN ?_ _) | (with_reducible refine Kd.C_drew ?_)))
                    (case side2 => exact HC0_1.out)
                    rintro e w19 ⟨rfl, hb⟩
                    refine ⟨_, rfl, ?_⟩
                    replace BK102 := sqb BK102 hb
                    replace HB := sqs HB hb
                    (try clear hb)
                    refine hK.out _ _ ⟨(blk_cell BK102.out 0).trans rfl, (blk_cell BK102.out 1).trans rfl, ((HB.out.cell (World.block_lt_of_cell? w _ hw104_0)).trans hw104_0)⟩ (fun hHeld => ?_)
                    clear hK K
                    refine sqnm ?_
                    refine sqp HT_ 6 39 ?_
                    refine sqw HT_ HW_ 7 40 hHeld ?_
                    refine sqp HT_ 8 41 ?_
                    refine done_ (done_of HT_.out (by kernel_rfl)) ?_
                    try go_wp2
                    go_ret
                    exact sqe HB
                · rw [if_neg c14] at H
                  exact absurd H (by simp)
              · rw [if_neg c13] at H
                exact absurd H (by simp)
            · rw [if_neg c11] at H
              have c11b0 : decide (x30_2 < (wrap64 (a0_0 + 1))) = false := decide_eq_false c11
              clear c11
              have H' := Aside0.mk H
              clear H
              obtain ⟨hcz20_0, hcz20_1, hfz20_0, hfz20_1⟩ := sqc2 BK102
              go_wp2
              go_loopg [46] k2 (fun kq v46 w' => ∃ (x46_3 : Int), v46 = .int .i64 x46_3 ∧ Aside0 (impl_GapsOk.l1 kq l0_1 (l0_1.length : Int) x46_3 = some r) ∧ Aside0 (kq ≤ k2) ∧ Aside0 (w'.heap[gb102]? = some (.cells #[.int .i64 a0_0, (.slice A0_1 l0_1.length c0_1)] 41 (0, 0))) ∧ Aside0 (Below w.heap.size w w'))
              case atStart => exact ⟨(0), (by first | rfl | (simp; done) | (simp [*]; done)), H', ⟨Nat.le_refl _⟩, sqk BK102, sqh HB⟩
              case round =>
                clear H'
                try clear c1
                try clear p1
                try clear q1
                try clear hx1
                try clear p2
                try clear c3
                try clear c4
                try clear c4b0
                try clear c6
                try clear c6b0
                try clear p6
                try clear c9
                try clear p10
                try clear q10
                try clear hx10
                try clear c11
                try clear c11b0
                try clear c13
                try clear c13b0
                try clear c14
                try clear c14b0
                try clear c15
                try clear c15b0
                try clear c15b1
                try clear hcz10_0
                try clear hcz10_1
                try clear hcz20_0
                try clear hcz20_1
                try clear hcz5_0
                try clear hcz5_1
                try clear hcz7_0
                try clear hcz7_1
                try clear hcz8_0
                try clear hcz8_1
                try clear hfz10_0
                try clear hfz10_1
                try clear hfz20_0
                try clear hfz20_1
                try clear hfz5_0
                try clear hfz5_1
                try clear hfz7_0
                try clear hfz7_1
                try clear hfz8_0
                try clear hfz8_1
                try clear hx104_0
                try clear p104
                try clear p2
                try clear p6
                try clear q104
                obtain ⟨x46_3, rfl, HA, HK3, BK102, HB⟩ := hrel
                cases gk with
                | zero => exact absurd HA.out (by simp [impl_GapsOk.l1])
                | succ k3 =>
                  have H := HA.out
                  clear HA
                  simp only [impl_GapsOk.l1] at H
                  by_cases c21 : x46_3 < (l0_1.length : Int)
                  · rw [if_pos c21] at H
                    have c21b0 : decide (x46_3 < (l0_1.length : Int)) = true := decide_eq_true c21
                    clear c21
                    by_cases c22 : 0 ≤ x46_3
                    · rw [if_pos c22] at H
                      have c22b0 : decide (0 ≤ x46_3) = true := decide_eq_true c22
                      clear c22
                      by_cases c23 : x46_3 < (l0_1.length : Int)
                      · rw [if_pos c23] at H
                        have c23b0 : decide (x46_3 < (l0_1.length : Int)) = true := decide_eq_true c23
                        clear c23
                        by_cases c24 : (rd l0_1 x46_3) < (-1099511627776)
                        · rw [if_pos c24] at H
                          have c24b0 : decide ((rd l0_1 x46_3) < (-1099511627776)) = true := decide_eq_true c24
                          clear c24
                          obtain rfl := Option.some.inj H
                          have p105 : 0 ≤ (x46_3 : Int) := of_decide_eq_true (by first | (with_reducible assumption) | assumption)
                          have q105 : x46_3 < (l0_1.length : Int) := of_decide_eq_true (by first | (with_reducible assumption) | assumption)
                          obtain ⟨ad105, e105, hx105_0⟩ := Kd.at_int HR0_1.out x46_3 p105 q105
                          cases e105
                          replace hx105_0 := (HB.out.cell (World.block_lt_of_cell? w _ hx105_0)).trans hx105_0
                          replace p105 := eq_true p105
                          replace q105 := eq_true q105
                          go_wp2
                          go_ret
                          exact sqe HB
                        · rw [if_neg c24] at H
                          have c24b0 : decide ((rd l0_1 x46_3) < (-1099511627776)) = false := decide_eq_false c24
                          clear c24
                          by_cases c25 : (rd l0_1 x46_3) > 1099511627776
                          · rw [if_pos c25] at H
                            have c25b0 : decide (1099511627776 < (rd l0_1 x46_3)) = true := decide_eq_true c25
                            clear c25
                            obtain rfl := Option.some.inj H
                            have p105 : 0 ≤ (x46_3 : Int) := of_decide_eq_true (by first | (with_reducible assumption) | assumption)
                            have q105 : x46_3 < (l0_1.length : Int) := of_decide_eq_true (by first | (with_reducible assumption) | assumption)
                            obtain ⟨ad105, e105, hx105_0⟩ := Kd.at_int HR0_1.out x46_3 p105 q105
                            cases e105
                            replace hx105_0 := (HB.out.cell (World.block_lt_of_cell? w _ hx105_0)).trans hx105_0
                            replace p105 := eq_true p105
                            replace q105 := eq_true q105
                            go_wp2
                            go_ret
                            exact sqe HB
                          · rw [if_neg c25] at H
                            have c25b0 : decide (1099511627776 < (rd l0_1 x46_3)) = false := decide_eq_false c25
                            clear c25
                            have H' := Aside0.mk H
                            clear H
                            have p105 : 0 ≤ (x46_3 : Int) := of_decide_eq_true (by first | (with_reducible assumption) | assumption)
                            have q105 : x46_3 < (l0_1.length : Int) := of_decide_eq_true (by first | (with_reducible assumption) | assumption)
                            obtain ⟨ad105, e105, hx105_0⟩ := Kd.at_int HR0_1.out x46_3 p105 q105
                            cases e105
                            replace hx105_0 := (HB.out.cell (World.block_lt_of_cell? w _ hx105_0)).trans hx105_0
                            replace p105 := eq_true p105
                            replace q105 := eq_true q105
                            go_wp2
                            go_roundg k3
                            case measure => have := HJ1.out; have := HK2.out; have := HK3.out; omega
                            case rel => exact ⟨(wrap64 (x46_3 + 1)), (by first | rfl | (simp; done) | (simp [*]; done)), H', ⟨by have := HJ1.out; have := HK2.out; have := HK3.out; omega⟩, sqk BK102, sqh HB⟩
                      · rw [if_neg c23] at H
                        exact absurd H (by simp)
                    · rw [if_neg c22] at H
                      exact absurd H (by simp)
                  · rw [if_neg c21] at H
                    have c21b0 : decide (x46_3 < (l0_1.length : Int)) = false := decide_eq_false c21
                    clear c21
                    obtain rfl := Option.some.inj H
                    go_wp2
                    go_ret
                    exact sqe HB

/-! ### impl_Gaps_clone: function 111 -/
set_option maxHeartbeats 8000000 in
set_option maxRecDepth 100000 in
theorem impl_Gaps_clone.calls (a0_0 : Int) (A0_1 : Option Addr) (c0_1 : Nat) (l0_1 : List Int) (r1 : Int) (r2 : List Int) (w : World) (hr0_1 : Kd.C (Kd.int .i64) w A0_1 l0_1.length l0_1) (hc0_1 : l0_1.length ≤ c0_1) (h : impl_Gaps_clone.f a0_0 l0_1 = some (r1, r2)) :
    Calls Try.prog 111 #[.agg #[.int .i64 a0_0, .slice A0_1 l0_1.length c0_1]] w fun e w' => ∃ v1_ : Value, e = .returned (.agg #[.int .i64 r1, v1_]) ∧ Kd.R (Kd.int .i64) 3 w' w.heap.size (fun _ => True) v1_ r2 ∧ Below w.heap.size w w' := by
  have hu41 := Try.underlying41
  have HR0_1 := Aside0.mk hr0_1
  have HC0_1 := Aside0.mk hc0_1
  clear hr0_1 hc0_1
  have HB := Aside0.mk (Below.refl w.heap.size w)
  have H : (if ([] : List Int).length + l0_1.length < 17592186044416 then (some (a0_0, (([] : List Int) ++ l0_1))) else (none)) = some (r1, r2) := h
  clear h
  by_cases c2 : ([] : List Int).length + l0_1.length < 17592186044416
  · rw [if_pos c2] at H
    have LMc2 := Aside0.mk c2
    clear c2
    obtain ⟨y108, hy108⟩ : ∃ y_ : List Int, y_ = (([] : List Int) ++ l0_1) := ⟨_, rfl⟩
    replace H : (some (a0_0, y108)) = some (r1, r2) := by first | (rw [hy108]; with_reducible exact H) | (have H2_ := (Option.bind_some _ _).symm.trans H; rw [hy108]; with_reducible exact H2_) | (have H2_ := (Option.bind_some _ _).symm.trans H; with_reducible exact H2_) | with_reducible exact H | (rw [hy108]; exact H) | exact H
    have Ny108 := Aside0.mk hy108
    clear hy108
    simp only [Option.some.injEq, Prod.mk.injEq] at H
    obtain ⟨rfl, rfl⟩ := H
    go_enter Try.func111, Try.ntmps111
    try go_wp2_with (first | ((with_reducible refine gate_dst (N := 1) rfl ?_); refine sqx 1 #[.int .i64 a0_0, .slice A0_1 l0_1.length c0_1] 41 ?_; intro gb106 hg w3 hbox hb; have BK106 := Aside0.mk (hbox); have GW106 := sqg HB hg; have GE106 := sqg HB hg; replace HB := sqs HB hb; clear hb hbox hg) | ((with_reducible refine gate_dst (N := 2) rfl ?_); refine sqx 2 #[.int .i64 0, .slice none 0 0] 41 ?_; intro gb107 hg w4 hbox hb; have BK107 := Aside0.mk (hbox); have GW107 := sqg HB hg; have GE107 := sqg HB hg; have NB106_107 := sqn BK106 hg; have NB107_106 := sqm BK106 hg; replace BK106 := sqb BK106 hb; replace HB := sqs HB hb; clear hb hbox hg))
    replace BK106 := Aside0.mk (blk_drew BK106.out)
    replace BK107 := Aside0.mk (blk_drew BK107.out)
    replace HB := Aside0.mk (below_drew1 HB.out)
    refine start_ (n := 7) (S := fun w' => w'.cell? ⟨gb106, 0, none⟩ = some (.int .i64 a0_0) ∧ w'.cell? ⟨gb106, 1, none⟩ = some (.slice A0_1 l0_1.length c0_1)) (ds := []) #[false, false, false, false, false, false, false] (by kernel_rfl) rfl rfl ⟨(blk_cell BK106.out 0).trans rfl, (blk_cell BK106.out 1).trans rfl⟩ (fun hHeld => ?_)
    generalize w4.drew = w5 at BK106 BK107 HB hHeld ⊢
    refine pure_ (i := 0) (N := some 3) (v := ?_) (a' := ?_) #[true, false, false, false, false, false, false] rfl rfl (by kernel_rfl) (fun _ _ _ h => h) (Or.inl ⟨by rfl, ?_⟩) ?_ ?_
    rotate_left
    · intro w'
      go_simp
      with_reducible rfl
    rotate_left
    · simp only [Act.put, List.setIfInBounds_toArray, List.set_cons_zero, List.set_cons_succ, i64_w, i32_w]
      rfl
    refine pure_ (i := 2) (N := some 5) (v := ?_) (a' := ?_) #[true, false, true, false, false, false, false] rfl rfl (by kernel_rfl) (fun _ _ _ h => h) (Or.inl ⟨by rfl, ?_⟩) ?_ ?_
    rotate_left
    · intro w'
      go_simp
      with_reducible rfl
    rotate_left
    · simp only [Act.put, List.setIfInBounds_toArray, List.set_cons_zero, List.set_cons_succ, i64_w, i32_w]
      rfl
    refine take_ (i := 1) (N := some 4) (v := ?_) (a' := ?_) #[true, true, true, false, false, false, false] rfl rfl (by kernel_rfl) (fun _ _ _ h => h) (Or.inl ⟨by rfl, ?_⟩) hHeld ?_ ?_
    rotate_left
    · rintro w' ⟨s0, s1⟩
      go_simp
      with_reducible rfl
    rotate_left
    · simp only [Act.put, List.setIfInBounds_toArray, List.set_cons_zero, List.set_cons_succ, i64_w, i32_w]
      rfl
    refine take_ (i := 3) (N := some 6) (v := ?_) (a' := ?_) #[true, true, true, true, false, false, false] rfl rfl (by kernel_rfl) (fun _ _ _ h => h) (Or.inl ⟨by rfl, ?_⟩) hHeld ?_ ?_
    rotate_left
    · rintro w' ⟨s0, s1⟩
      go_simp
      with_reducible rfl
    rotate_left
    · simp only [Act.put, List.setIfInBounds_toArray, List.set_cons_zero, List.set_cons_succ, i64_w, i32_w]
      rfl
    refine one_ (i := 4) (N := some 7) #[true, true, true, true, true, false, false] rfl rfl (by kernel_rfl) (by decide) (fun K hK => ?_)
    refine Kd.R_append_rows_step (Kd.int .i64) (w0 := w) w.heap.size rfl (.const (.slice none 0 0)) (.tmp 6) 39 3 (.int .i64 0) 8 rfl Try.underlying39 info3 rfl (by decide) (by omega) (.slice none 0 0) ([] : List Int) l0_1 _ _ _ (fun _ => True) (fun _ => False) rfl rfl ?aO ?aR (fun _ _ h => h) (fun _ h => h.elim) ?aF ?aB ?aS ?aL ?_
    (case aR => repeat (first | exact (Kd.C_below HR0_1.out HB.out) | (with_reducible refine Kd.C_alloc ?_ _) | (with_reducible refine Kd.C_drewN ?_ _) | (with_reducible refine Kd.C_drew ?_)))
    (case aB => exact (by repeat (first | (with_reducible first | exact HB.out | apply below_alloc | apply pw_below_drewN | apply below_drew1 | refine below_set ?_ GE106.out | refine below_set ?_ GE107.out) | exact HB.out)))
    (case aF => exact (fun _ _ => trivial))
    (case aO => exact ((Kd.R_nil _ _ _ _ (fun _ => True))))
    (case aS => exact (below_size (by repeat (first | (with_reducible first | exact HB.out | apply below_alloc | apply pw_below_drewN | apply below_drew1 | refine below_set ?_ GE106.out | refine below_set ?_ GE107.out) | exact HB.out))))
    (case aL => have := LMc2.out; omega)
    intro v109 w6 ho hb hg hat
    rw [← Ny108.out] at ho
    have n0_ := Aside0.mk (blk_grown (g := gb106) (o := .cells #[.int .i64 a0_0, .slice A0_1 l0_1.length c0_1] 41 (0, 0)) (by refine sqt ?_; exact BK106.out) hg (by simp [Value.ownBlock]))
    have n1_ := Aside0.mk (blk_grown (g := gb107) (o := .cells #[.int .i64 0, .slice none 0 0] 41 (0, 0)) (by refine sqt ?_; exact BK107.out) hg (by simp [Value.ownBlock]))
    have n2_ := Aside0.mk (hb)
    have n3_ := Aside0.mk (ho)
    clear BK106
    clear BK107
    clear HB
    have BK106 := n0_
    have BK107 := n1_
    have HB := n2_
    have HO110 := n3_
    clear n0_ n1_ n2_ n3_
    clear ho hb hg hat
    obtain ⟨Ao7, co7, eo7⟩ := Kd.R_slice HO110.out
    (first | subst eo7 | (injection eo7 with f1_ f2_ f3_; have f4_ := f1_.symm; have f5_ := f3_.symm; clear f1_ f2_ f3_; subst f4_; subst f5_))
    refine hK.out _ _ sqz (fun hHeld => ?_)
    clear hK K
    refine sqnm ?_
    refine pure_ (i := 5) (N := some 8) (v := ?_) (a' := ?_) #[true, true, true, true, true, true, false] rfl rfl (by kernel_rfl) (fun _ _ _ h => h) (Or.inl ⟨by rfl, ?_⟩) ?_ ?_
    rotate_left
    · intro w'
      go_simp
      with_reducible rfl
    rotate_left
    · simp only [Act.put, List.setIfInBounds_toArray, List.set_cons_zero, List.set_cons_succ, i64_w, i32_w]
      rfl
    refine one_ (i := 6) (N := none) #[true, true, true, true, true, true, true] rfl rfl (by kernel_rfl) (by decide) (fun K hK => ?_)
    have hs8 : w6.cell? ⟨gb107, 0, none⟩ = some (.int .i64 0) := (blk_cell BK107.out 0).trans rfl
    have hfs8 := blk_frozen BK107.out 0
    have hns8_0 := NB106_107.out
    have hms8_0 := NB107_106.out
    have hs9 : w6.cell? ⟨gb107, 1, none⟩ = some (.slice none 0 0) := (blk_cell BK107.out 1).trans rfl
    have hfs9 := blk_frozen BK107.out 1
    have hns9_0 := NB106_107.out
    have hms9_0 := NB107_106.out
    refine skip_ (w1 := ?_) (by rfl) rfl ?_ ?_
    rotate_left
    · go_simp
      rfl
    refine hK.out _ _ ⟨((cell_far (p := ⟨gb107, _, none⟩) NB106_107.out _).trans (((cell_far (p := ⟨gb107, _, none⟩) NB106_107.out _).trans (hHeld.1)))), ((cell_far (p := ⟨gb107, _, none⟩) NB106_107.out _).trans (((cell_far (p := ⟨gb107, _, none⟩) NB106_107.out _).trans (hHeld.2))))⟩ (fun hHeld => ?_)
    clear hK K
    refine done_ (by kernel_rfl) ?_
    try go_wp2
    refine bodyPost_ret (results_cell_row rfl _ _ gb107 41 #[.int .i64 a0_0, .slice Ao7 y108.length co7] (0, 0) _ rfl (by refine sqt ?_; refine blk_put (cs := #[.int .i64 a0_0, .slice none 0 0]) ?_ 1 _ rfl; refine sqt ?_; refine blk_put (cs := #[.int .i64 0, .slice none 0 0]) ?_ 0 _ rfl; refine sqt ?_; exact BK107.out) Try.underlying41 rfl (by kernel_rfl)) rfl ?_
    exact ⟨_, by first | rfl | (simp [errW_none, errW_some] <;> rfl) | (simp [*, errW_none, errW_some] <;> rfl), by (with_reducible repeat (first | apply Kd.R_alloc | apply Kd.R_drewN | apply Kd.R_drew)); exact Kd.R_mono (Kd.R_far (p := ⟨gb107, 1, none⟩) (Kd.R_far (p := ⟨gb107, 0, none⟩) (Kd.R_types HO110.out BK107.out (by decide)) (fun _ hk => hk.2) (.int .i64 a0_0)) (fun _ hk => hk.2) (.slice Ao7 y108.length co7)) (fun _ hk => trivial), by repeat (first | (with_reducible first | exact HB.out | apply below_alloc | apply pw_below_drewN | apply below_drew1 | refine below_set ?_ GE106.out | refine below_set ?_ GE107.out) | exact HB.out)⟩
  · rw [if_neg c2] at H
    exact absurd H (by simp)

/-! ### impl_gapsTogether: function 112 -/
set_option maxHeartbeats 8000000 in
set_option maxRecDepth 100000 in
theorem impl_gapsTogether.calls (a0 : Int) (a1 : Int) (r : Int) (w : World) (h : impl_gapsTogether.f a0 a1 = some r) :
    Calls Try.prog 112 #[.int .i64 a0, .int .i64 a1] w fun e w' => e = .returned (.int .i64 r) ∧ Drawn0 w w' := by
  have H : (if a0 = 1099511627776 then (some 1099511627776) else (if a1 = 1099511627776 then (some 1099511627776) else (if (wrap64 (a0 + a1)) ≥ 1099511627776 then (some 1099511627776) else (some (wrap64 (a0 + a1)))))) = some r := h
  clear h
  by_cases c3 : a0 = 1099511627776
  · rw [if_pos c3] at H
    have c3b0 : (a0 == 1099511627776) = true := beq_iff_eq.mpr c3
    have c3b1 : (a0 != 1099511627776) = false := bne_eq_false_iff_eq.mpr c3
    clear c3
    obtain rfl := Option.some.inj H
    go_enter Try.func112, Try.ntmps112
    go_wp2
    go_ret
    exact ⟨by first | rfl | (simp; done) | (simp [*]; done), by repeat (first | exact Drawn0.refl _ | apply Drawn0.step)⟩
  · rw [if_neg c3] at H
    have c3b0 : (a0 == 1099511627776) = false := beq_eq_false_iff_ne.mpr c3
    have c3b1 : (a0 != 1099511627776) = true := bne_iff_ne.mpr c3
    by_cases c4 : a1 = 1099511627776
    · rw [if_pos c4] at H
      have c4b0 : (a1 == 1099511627776) = true := beq_iff_eq.mpr c4
      have c4b1 : (a1 != 1099511627776) = false := bne_eq_false_iff_eq.mpr c4
      clear c4
      obtain rfl := Option.some.inj H
      go_enter Try.func112, Try.ntmps112
      go_wp2
      go_ret
      exact ⟨by first | rfl | (simp; done) | (simp [*]; done), by repeat (first | exact Drawn0.refl _ | apply Drawn0.step)⟩
    · rw [if_neg c4] at H
      have c4b0 : (a1 == 1099511627776) = false := beq_eq_false_iff_ne.mpr c4
      have c4b1 : (a1 != 1099511627776) = true := bne_iff_ne.mpr c4
      by_cases c5 : (wrap64 (a0 + a1)) ≥ 1099511627776
      · rw [if_pos c5] at H
        have c5b0 : decide (1099511627776 ≤ (wrap64 (a0 + a1))) = true := decide_eq_true c5
        clear c5
        obtain rfl := Option.some.inj H
        go_enter Try.func112, Try.ntmps112
        go_wp2
        go_ret
        exact ⟨by first | rfl | (simp; done) | (simp [*]; done), by repeat (first | exact Drawn0.refl _ | apply Drawn0.step)⟩
      · rw [if_neg c5] at H
        have c5b0 : decide (1099511627776 ≤ (wrap64 (a0 + a1))) = false := decide_eq_false c5
        clear c5
        obtain rfl := Option.some.inj H
        go_enter Try.func112, Try.ntmps112
        go_wp2
        go_ret
        exact ⟨by first | rfl | (simp; done) | (simp [*]; done), by repeat (first | exact Drawn0.refl _ | apply Drawn0.step)⟩

end Go.Proofs.Ytkekcenlleebeaa.PFnGapsBack
