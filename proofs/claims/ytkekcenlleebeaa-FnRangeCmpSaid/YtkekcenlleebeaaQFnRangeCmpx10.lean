/- Functions of the program as plain Lean functions, and that calls of them come to what these tell. Conditions: those in each law. -/
import Derived.Test.YtkekcenlleebeaaSq
import Derived.Test.YtkekcenlleebeaaDFnRangeCmp
import Derived.Test.YtkekcenlleebeaaQFnRangeCmpx0
import Derived.Test.YtkekcenlleebeaaQFnRangeCmpx7
import Derived.Test.YtkekcenlleebeaaQFnRangeCmpx8
import Derived.Test.YtkekcenlleebeaaQFnRangeCmpx9
namespace Go.Proofs.Ytkekcenlleebeaa.PFnRangeCmp
open Go.RowKit Go.Proofs.Ytkekcenlleebeaa.Sq Go.Proofs.YtkekcenlleebeaaW.PrintWords Go.Proofs.YtkekcenlleebeaaW.PrintLast Go.Proofs.YtkekcenlleebeaaW.PrintMore
attribute [local go_sem] max2_int min2_int max_two min_two max_three min_three max_four min_four   -- for this text's walks alone
set_option linter.unusedVariables false
set_option linter.unusedSimpArgs false

/-! ### impl_RangeCmp: function 43 -/
theorem impl_RangeCmp.mono_l : ∀ k, (∀ y0 y1 y2 y3 y4, LeO (impl_RangeCmp.f k y0 y1 y2 y3 y4) (impl_RangeCmp.f (k + 1) y0 y1 y2 y3 y4)) ∧ (∀ y0 y1 y2 y3 y4 y5, LeO (impl_RangeCmp.j0 k y0 y1 y2 y3 y4 y5) (impl_RangeCmp.j0 (k + 1) y0 y1 y2 y3 y4 y5)) ∧ (∀ y0 y1 y2 y3, LeO (impl_RangeCmp.j2 k y0 y1 y2 y3) (impl_RangeCmp.j2 (k + 1) y0 y1 y2 y3)) ∧ (∀ y0 y1 y2 y3 y4, LeO (impl_RangeCmp.j3 k y0 y1 y2 y3 y4) (impl_RangeCmp.j3 (k + 1) y0 y1 y2 y3 y4)) ∧ (∀ y0 y1 y2 y3 y4 y5, LeO (impl_RangeCmp.j1 k y0 y1 y2 y3 y4 y5) (impl_RangeCmp.j1 (k + 1) y0 y1 y2 y3 y4 y5))
  | 0 => ⟨fun _ _ _ _ _ r h => by simp [impl_RangeCmp.f] at h, fun _ _ _ _ _ _ r h => by simp [impl_RangeCmp.j0] at h, fun _ _ _ _ r h => by simp [impl_RangeCmp.j2] at h, fun _ _ _ _ _ r h => by simp [impl_RangeCmp.j3] at h, fun _ _ _ _ _ _ r h => by simp [impl_RangeCmp.j1] at h⟩
  | k + 1 => by
    obtain ⟨ih0, ih1, ih2, ih3, ih4⟩ := impl_RangeCmp.mono_l k
    refine ⟨?_, ?_, ?_, ?_, ?_⟩
    · intro y0 y1 y2 y3 y4
      unfold impl_RangeCmp.f
      repeat' first
      | (with_reducible exact ih0 _ _ _ _ _)
      | (with_reducible exact ih1 _ _ _ _ _ _)
      | (with_reducible exact ih2 _ _ _ _)
      | (with_reducible exact ih3 _ _ _ _ _)
      | (with_reducible exact ih4 _ _ _ _ _ _)
      | (with_reducible exact impl_CmpTurn.mono _ _)
      | (with_reducible exact impl_RangeMeet.mono _ _ _ _ _)
      | (with_reducible exact impl_rangeWithout.mono _ _ _ _ _)
      | (with_reducible exact LeO.refl _)
      | (with_reducible exact LeO.none _)
      | (with_reducible refine LeO.ite ?_ ?_)
      | (with_reducible refine LeO.bind ?_ (fun _ => ?_))
      | exact ih0 _ _ _ _ _
      | exact ih1 _ _ _ _ _ _
      | exact ih2 _ _ _ _
      | exact ih3 _ _ _ _ _
      | exact ih4 _ _ _ _ _ _
      | exact impl_CmpTurn.mono _ _
      | exact impl_RangeMeet.mono _ _ _ _ _
      | exact impl_rangeWithout.mono _ _ _ _ _
      | exact LeO.none _
      | refine LeO.ite ?_ ?_
      | refine LeO.bind ?_ (fun _ => ?_)
    · intro y0 y1 y2 y3 y4 y5
      unfold impl_RangeCmp.j0
      repeat' first
      | (with_reducible exact ih0 _ _ _ _ _)
      | (with_reducible exact ih1 _ _ _ _ _ _)
      | (with_reducible exact ih2 _ _ _ _)
      | (with_reducible exact ih3 _ _ _ _ _)
      | (with_reducible exact ih4 _ _ _ _ _ _)
      | (with_reducible exact impl_CmpTurn.mono _ _)
      | (with_reducible exact impl_RangeMeet.mono _ _ _ _ _)
      | (with_reducible exact impl_rangeWithout.mono _ _ _ _ _)
      | (with_reducible exact LeO.refl _)
      | (with_reducible exact LeO.none _)
      | (with_reducible refine LeO.ite ?_ ?_)
      | (with_reducible refine LeO.bind ?_ (fun _ => ?_))
      | exact ih0 _ _ _ _ _
      | exact ih1 _ _ _ _ _ _
      | exact ih2 _ _ _ _
      | exact ih3 _ _ _ _ _
      | exact ih4 _ _ _ _ _ _
      | exact impl_CmpTurn.mono _ _
      | exact impl_RangeMeet.mono _ _ _ _ _
      | exact impl_rangeWithout.mono _ _ _ _ _
      | exact LeO.none _
      | refine LeO.ite ?_ ?_
      | refine LeO.bind ?_ (fun _ => ?_)
    · intro y0 y1 y2 y3
      unfold impl_RangeCmp.j2
      repeat' first
      | (with_reducible exact ih0 _ _ _ _ _)
      | (with_reducible exact ih1 _ _ _ _ _ _)
      | (with_reducible exact ih2 _ _ _ _)
      | (with_reducible exact ih3 _ _ _ _ _)
      | (with_reducible exact ih4 _ _ _ _ _ _)
      | (with_reducible exact impl_CmpTurn.mono _ _)
      | (with_reducible exact impl_RangeMeet.mono _ _ _ _ _)
      | (with_reducible exact impl_rangeWithout.mono _ _ _ _ _)
      | (with_reducible exact LeO.refl _)
      | (with_reducible exact LeO.none _)
      | (with_reducible refine LeO.ite ?_ ?_)
      | (with_reducible refine LeO.bind ?_ (fun _ => ?_))
      | exact ih0 _ _ _ _ _
      | exact ih1 _ _ _ _ _ _
      | exact ih2 _ _ _ _
      | exact ih3 _ _ _ _ _
      | exact ih4 _ _ _ _ _ _
      | exact impl_CmpTurn.mono _ _
      | exact impl_RangeMeet.mono _ _ _ _ _
      | exact impl_rangeWithout.mono _ _ _ _ _
      | exact LeO.none _
      | refine LeO.ite ?_ ?_
      | refine LeO.bind ?_ (fun _ => ?_)
    · intro y0 y1 y2 y3 y4
      unfold impl_RangeCmp.j3
      repeat' first
      | (with_reducible exact ih0 _ _ _ _ _)
      | (with_reducible exact ih1 _ _ _ _ _ _)
      | (with_reducible exact ih2 _ _ _ _)
      | (with_reducible exact ih3 _ _ _ _ _)
      | (with_reducible exact ih4 _ _ _ _ _ _)
      | (with_reducible exact impl_CmpTurn.mono _ _)
      | (with_reducible exact impl_RangeMeet.mono _ _ _ _ _)
      | (with_reducible exact impl_rangeWithout.mono _ _ _ _ _)
      | (with_reducible exact LeO.refl _)
      | (with_reducible exact LeO.none _)
      | (with_reducible refine LeO.ite ?_ ?_)
      | (with_reducible refine LeO.bind ?_ (fun _ => ?_))
      | exact ih0 _ _ _ _ _
      | exact ih1 _ _ _ _ _ _
      | exact ih2 _ _ _ _
      | exact ih3 _ _ _ _ _
      | exact ih4 _ _ _ _ _ _
      | exact impl_CmpTurn.mono _ _
      | exact impl_RangeMeet.mono _ _ _ _ _
      | exact impl_rangeWithout.mono _ _ _ _ _
      | exact LeO.none _
      | refine LeO.ite ?_ ?_
      | refine LeO.bind ?_ (fun _ => ?_)
    · intro y0 y1 y2 y3 y4 y5
      unfold impl_RangeCmp.j1
      repeat' first
      | (with_reducible exact ih0 _ _ _ _ _)
      | (with_reducible exact ih1 _ _ _ _ _ _)
      | (with_reducible exact ih2 _ _ _ _)
      | (with_reducible exact ih3 _ _ _ _ _)
      | (with_reducible exact ih4 _ _ _ _ _ _)
      | (with_reducible exact impl_CmpTurn.mono _ _)
      | (with_reducible exact impl_RangeMeet.mono _ _ _ _ _)
      | (with_reducible exact impl_rangeWithout.mono _ _ _ _ _)
      | (with_reducible exact LeO.refl _)
      | (with_reducible exact LeO.none _)
      | (with_reducible refine LeO.ite ?_ ?_)
      | (with_reducible refine LeO.bind ?_ (fun _ => ?_))
      | exact ih0 _ _ _ _ _
      | exact ih1 _ _ _ _ _ _
      | exact ih2 _ _ _ _
      | exact ih3 _ _ _ _ _
      | exact ih4 _ _ _ _ _ _
      | exact impl_CmpTurn.mono _ _
      | exact impl_RangeMeet.mono _ _ _ _ _
      | exact impl_rangeWithout.mono _ _ _ _ _
      | exact LeO.none _
      | refine LeO.ite ?_ ?_
      | refine LeO.bind ?_ (fun _ => ?_)
theorem impl_RangeCmp.mono : ∀ a0 a1 a2 a3 a4 k, LeO (impl_RangeCmp.f k a0 a1 a2 a3 a4) (impl_RangeCmp.f (k + 1) a0 a1 a2 a3 a4) := by
  intro a0 a1 a2 a3 a4 k
  obtain ⟨ih0, ih1, ih2, ih3, ih4⟩ := impl_RangeCmp.mono_l k
  exact ih0 a0 a1 a2 a3 a4
def impl_RangeCmp.T10 : Bool × List (List Nat × List Nat) := (true, [([], []), ([], []), ([0, 1], [0, 1]), ([], []), ([], []), ([3, 4, 2], [3, 4]), ([2, 5, 0, 1, 2], [2]), ([5, 6, 0, 1, 2, 3, 4, 5, 6], [5])])
def impl_RangeCmp.B10 : List Nat := [0, 0, 3, 0, 0, 31, 63, 127]
theorem impl_RangeCmp.tab10 : rtab .any (opsOf Try.f43 10) = impl_RangeCmp.T10 := by kernel_rfl
theorem impl_RangeCmp.bits10 : waitsOk impl_RangeCmp.T10.2 impl_RangeCmp.B10 = true := by kernel_rfl
def impl_RangeCmp.T19 : Bool × List (List Nat × List Nat) := (true, [([], []), ([0], [0]), ([], []), ([], []), ([1, 2, 3, 1], [1, 2, 3]), ([4], [4]), ([5], [5]), ([5], [5]), ([6, 4, 0, 1, 2, 3, 4, 5, 6], [6]), ([7, 8, 0, 1, 2, 3, 4, 5, 6, 7, 8], [7])])
def impl_RangeCmp.B19 : List Nat := [0, 1, 0, 0, 15, 31, 63, 63, 127, 511]
theorem impl_RangeCmp.tab19 : rtab .any (opsOf Try.f43 19) = impl_RangeCmp.T19 := by kernel_rfl
theorem impl_RangeCmp.bits19 : waitsOk impl_RangeCmp.T19.2 impl_RangeCmp.B19 = true := by kernel_rfl
set_option maxHeartbeats 8000000 in
set_option maxRecDepth 100000 in
theorem impl_RangeCmp.calls (k : Nat) : ∀ (a0 : Int) (a1_0 : Int) (a1_1 : Int) (a2_0 : Int) (a2_1 : Int) (r1 : Int) (r2 : Int) (r3 : Int) (r4 : Int) (w : World) (h : impl_RangeCmp.f k a0 a1_0 a1_1 a2_0 a2_1 = some (r1, r2, r3, r4)),
    Calls Try.prog 43 #[.int .i64 a0, .agg #[.int .i64 a1_0, .int .i64 a1_1], .agg #[.int .i64 a2_0, .int .i64 a2_1]] w fun e w' => e = .returned (.tuple #[.agg #[.int .i64 r1, .int .i64 r2], .agg #[.int .i64 r3, .int .i64 r4]]) ∧ Below w.heap.size w w' := by
  induction k using Nat.strongRecOn with
  | _ k ih =>
  intro a0 a1_0 a1_1 a2_0 a2_1 r1 r2 r3 r4 w h
  cases k with
  | zero => exact absurd h (by simp [impl_RangeCmp.f])
  | succ k =>
  simp only [impl_RangeCmp.f] at h
  have hu24 := Try.underlying24
  have HB := Aside0.mk (Below.refl w.heap.size w)
  have H : ((impl_RangeOk.f a1_0 a1_1).bind fun t276 => (if t276 = true then ((impl_RangeOk.f a2_0 a2_1).bind fun t277 => (if t277 = true then ((impl_Range_empty.f a1_0 a1_1).bind fun t278 => (if t278 = true then (impl_RangeCmp.j0 k a0 true a1_0 a1_1 a2_0 a2_1) else ((impl_Range_empty.f a2_0 a2_1).bind fun t279 => (impl_RangeCmp.j0 k a0 t279 a1_0 a1_1 a2_0 a2_1)))) else (impl_RangeCmp.j0 k a0 true a1_0 a1_1 a2_0 a2_1))) else (impl_RangeCmp.j0 k a0 true a1_0 a1_1 a2_0 a2_1))) = some (r1, r2, r3, r4) := h
  clear h
  have HC4 := Aside0.mk H
  clear H
  go_enter Try.func43, Try.ntmps43
  go_upto_region 1 with (first | ((with_reducible refine gate_dst (N := 4) rfl ?_); refine sqx 4 #[.int .i64 a1_0, .int .i64 a1_1] 24 ?_; intro gb272 hg w5 hbox hb; have BK272 := Aside0.mk (hbox); have GW272 := sqg HB hg; have GE272 := sqg HB hg; replace HB := sqs HB hb; clear hb hbox hg) | ((with_reducible refine gate_dst (N := 5) rfl ?_); refine sqx 5 #[.int .i64 a2_0, .int .i64 a2_1] 24 ?_; intro gb273 hg w6 hbox hb; have BK273 := Aside0.mk (hbox); have GW273 := sqg HB hg; have GE273 := sqg HB hg; have NB272_273 := sqn BK272 hg; have NB273_272 := sqm BK272 hg; replace BK272 := sqb BK272 hb; replace HB := sqs HB hb; clear hb hbox hg) | ((with_reducible refine gate_dst (N := 6) rfl ?_); refine sqx 6 #[.int .i64 0, .int .i64 0] 24 ?_; intro gb274 hg w7 hbox hb; have BK274 := Aside0.mk (hbox); have GW274 := sqg HB hg; have GE274 := sqg HB hg; have NB272_274 := sqn BK272 hg; have NB274_272 := sqm BK272 hg; have NB273_274 := sqn BK273 hg; have NB274_273 := sqm BK273 hg; replace BK272 := sqb BK272 hb; replace BK273 := sqb BK273 hb; replace HB := sqs HB hb; clear hb hbox hg) | ((with_reducible refine gate_dst (N := 7) rfl ?_); refine sqx 7 #[.int .i64 0, .int .i64 0] 24 ?_; intro gb275 hg w8 hbox hb; have BK275 := Aside0.mk (hbox); have GW275 := sqg HB hg; have GE275 := sqg HB hg; have NB272_275 := sqn BK272 hg; have NB275_272 := sqm BK272 hg; have NB273_275 := sqn BK273 hg; have NB275_273 := sqm BK273 hg; have NB274_275 := sqn BK274 hg; have NB275_274 := sqm BK274 hg; replace BK272 := sqb BK272 hb; replace BK273 := sqb BK273 hb; replace BK274 := sqb BK274 hb; replace HB := sqs HB hb; clear hb hbox hg))
  (try simp only [Act.put, List.setIfInBounds_toArray, List.set_cons_zero, List.set_cons_succ])
  go_cut [25] (fun v25 wc => ∃ (kq : Nat) (x25_3 : Bool), v25 = .bool x25_3 ∧ Aside0 (impl_RangeCmp.j0 kq a0 x25_3 a1_0 a1_1 a2_0 a2_1 = some (r1, r2, r3, r4)) ∧ Aside0 (kq ≤ k) ∧ Aside0 (wc.heap[gb272]? = some (.cells #[.int .i64 a1_0, .int .i64 a1_1] 24 (0, 0))) ∧ Aside0 (wc.heap[gb273]? = some (.cells #[.int .i64 a2_0, .int .i64 a2_1] 24 (0, 0))) ∧ Aside0 (wc.heap[gb274]? = some (.cells #[.int .i64 0, .int .i64 0] 24 (0, 0))) ∧ Aside0 (wc.heap[gb275]? = some (.cells #[.int .i64 0, .int .i64 0] 24 (0, 0))) ∧ Aside0 (Below w.heap.size w wc))
  case first =>
    have H := HC4.out
    clear HC4
    replace H := Option.bind_eq_some_iff.mp H
    obtain ⟨t276, A90, H⟩ := H
    replace H : (if t276 = true then ((impl_RangeOk.f a2_0 a2_1).bind fun t277 => (if t277 = true then ((impl_Range_empty.f a1_0 a1_1).bind fun t278 => (if t278 = true then (impl_RangeCmp.j0 k a0 true a1_0 a1_1 a2_0 a2_1) else ((impl_Range_empty.f a2_0 a2_1).bind fun t279 => (impl_RangeCmp.j0 k a0 t279 a1_0 a1_1 a2_0 a2_1)))) else (impl_RangeCmp.j0 k a0 true a1_0 a1_1 a2_0 a2_1))) else (impl_RangeCmp.j0 k a0 true a1_0 a1_1 a2_0 a2_1)) = some (r1, r2, r3, r4) := H
    have A9 := Aside0.mk A90
    clear A90
    by_cases c10 : t276 = true
    · subst c10
      have H1 : ((impl_RangeOk.f a2_0 a2_1).bind fun t277 => (if t277 = true then ((impl_Range_empty.f a1_0 a1_1).bind fun t278 => (if t278 = true then (impl_RangeCmp.j0 k a0 true a1_0 a1_1 a2_0 a2_1) else ((impl_Range_empty.f a2_0 a2_1).bind fun t279 => (impl_RangeCmp.j0 k a0 t279 a1_0 a1_1 a2_0 a2_1)))) else (impl_RangeCmp.j0 k a0 true a1_0 a1_1 a2_0 a2_1))) = some (r1, r2, r3, r4) := by rw [if_pos rfl] at H; exact H
      clear H
      have H := H1
      clear H1
      replace H := Option.bind_eq_some_iff.mp H
      obtain ⟨t277, A110, H⟩ := H
      replace H : (if t277 = true then ((impl_Range_empty.f a1_0 a1_1).bind fun t278 => (if t278 = true then (impl_RangeCmp.j0 k a0 true a1_0 a1_1 a2_0 a2_1) else ((impl_Range_empty.f a2_0 a2_1).bind fun t279 => (impl_RangeCmp.j0 k a0 t279 a1_0 a1_1 a2_0 a2_1)))) else (impl_RangeCmp.j0 k a0 true a1_0 a1_1 a2_0 a2_1)) = some (r1, r2, r3, r4) := H
      have A11 := Aside0.mk A110
      clear A110
      by_cases c12 : t277 = true
      · subst c12
        have H1 : ((impl_Range_empty.f a1_0 a1_1).bind fun t278 => (if t278 = true then (impl_RangeCmp.j0 k a0 true a1_0 a1_1 a2_0 a2_1) else ((impl_Range_empty.f a2_0 a2_1).bind fun t279 => (impl_RangeCmp.j0 k a0 t279 a1_0 a1_1 a2_0 a2_1)))) = some (r1, r2, r3, r4) := by rw [if_pos rfl] at H; exact H
        clear H
        have H := H1
        clear H1
        replace H := Option.bind_eq_some_iff.mp H
        obtain ⟨t278, A130, H⟩ := H
        replace H : (if t278 = true then (impl_RangeCmp.j0 k a0 true a1_0 a1_1 a2_0 a2_1) else ((impl_Range_empty.f a2_0 a2_1).bind fun t279 => (impl_RangeCmp.j0 k a0 t279 a1_0 a1_1 a2_0 a2_1))) = some (r1, r2, r3, r4) := H
        have A13 := Aside0.mk A130
        clear A130
        by_cases c14 : t278 = true
        · subst c14
          have H1 : (impl_RangeCmp.j0 k a0 true a1_0 a1_1 a2_0 a2_1) = some (r1, r2, r3, r4) := by rw [if_pos rfl] at H; exact H
          clear H
          have H := H1
          clear H1
          have H' := Aside0.mk H
          clear H
          have hnb15 := NB272_273.out
          have hnc15 := NB273_272.out
          have hnb16 := NB272_274.out
          have hnc16 := NB274_272.out
          have hnb17 := NB272_275.out
          have hnc17 := NB275_272.out
          obtain ⟨hcz18_0, hcz18_1, hfz18_0, hfz18_1⟩ := sqc2 BK272
          go_wp2_with (first | ((with_reducible refine gate_callee (f := 76) rfl ?_); refine sqL (some 11) Try.func76 #[.agg #[.int .i64 a1_0, .int .i64 a1_1]] ?_; (with_reducible refine (impl_RangeOk.calls a1_0 a1_1 true _ A9.out).mono ?_); rintro e w19 ⟨rfl, hb⟩; refine ⟨_, rfl, ?_⟩; replace BK272 := sqb BK272 hb; replace BK273 := sqb BK273 hb; replace BK274 := sqb BK274 hb; replace BK275 := sqb BK275 hb; replace HB := sqs HB hb; (try clear hb); have hnb20 := NB273_274.out; have hnc20 := NB274_273.out; have hnb21 := NB273_275.out; have hnc21 := NB275_273.out; obtain ⟨hcz22_0, hcz22_1, hfz22_0, hfz22_1⟩ := sqc2 BK273) | (go_at_call 76; (with_reducible refine (impl_RangeOk.calls a2_0 a2_1 true _ A11.out).mono ?_); rintro e w23 ⟨rfl, hb⟩; replace BK272 := sqb BK272 hb; replace BK273 := sqb BK273 hb; replace BK274 := sqb BK274 hb; replace BK275 := sqb BK275 hb; replace HB := sqs HB hb; (try clear hb); obtain ⟨hcz24_0, hcz24_1, hfz24_0, hfz24_1⟩ := sqc2 BK272) | (go_at_call 95; (with_reducible refine (impl_Range_empty.calls a1_0 a1_1 true _ A13.out).mono ?_); rintro e w25 ⟨rfl, hb⟩; replace BK272 := sqb BK272 hb; replace BK273 := sqb BK273 hb; replace BK274 := sqb BK274 hb; replace BK275 := sqb BK275 hb; replace HB := sqs HB hb; (try clear hb)))
          go_meet
          case rel => exact ⟨_, (true), (by first | rfl | (simp; done) | (simp [*]; done)), H', ⟨by first | omega | exact Nat.le_refl _⟩, sqk BK272, sqk BK273, sqk BK274, sqk BK275, sqh HB⟩
        · replace c14 := Bool.eq_false_iff.mpr c14
          subst c14
          have H1 : ((impl_Range_empty.f a2_0 a2_1).bind fun t279 => (impl_RangeCmp.j0 k a0 t279 a1_0 a1_1 a2_0 a2_1)) = some (r1, r2, r3, r4) := by rw [if_neg (show ¬ (false = true) by decide)] at H; exact H
          clear H
          have H := H1
          clear H1
          replace H := Option.bind_eq_some_iff.mp H
          obtain ⟨t279, A260, H⟩ := H
          replace H : (impl_RangeCmp.j0 k a0 t279 a1_0 a1_1 a2_0 a2_1) = some (r1, r2, r3, r4) := H
          have A26 := Aside0.mk A260
          clear A260
          have H' := Aside0.mk H
          clear H
          have hnb27 := NB272_273.out
          have hnc27 := NB273_272.out
          have hnb28 := NB272_274.out
          have hnc28 := NB274_272.out
          have hnb29 := NB272_275.out
          have hnc29 := NB275_272.out
          obtain ⟨hcz30_0, hcz30_1, hfz30_0, hfz30_1⟩ := sqc2 BK272
          go_wp2_with (first | ((with_reducible refine gate_callee (f := 76) rfl ?_); refine sqL (some 11) Try.func76 #[.agg #[.int .i64 a1_0, .int .i64 a1_1]] ?_; (with_reducible refine (impl_RangeOk.calls a1_0 a1_1 true _ A9.out).mono ?_); rintro e w31 ⟨rfl, hb⟩; refine ⟨_, rfl, ?_⟩; replace BK272 := sqb BK272 hb; replace BK273 := sqb BK273 hb; replace BK274 := sqb BK274 hb; replace BK275 := sqb BK275 hb; replace HB := sqs HB hb; (try clear hb); have hnb32 := NB273_274.out; have hnc32 := NB274_273.out; have hnb33 := NB273_275.out; have hnc33 := NB275_273.out; obtain ⟨hcz34_0, hcz34_1, hfz34_0, hfz34_1⟩ := sqc2 BK273) | (go_at_call 76; (with_reducible refine (impl_RangeOk.calls a2_0 a2_1 true _ A11.out).mono ?_); rintro e w35 ⟨rfl, hb⟩; replace BK272 := sqb BK272 hb; replace BK273 := sqb BK273 hb; replace BK274 := sqb BK274 hb; replace BK275 := sqb BK275 hb; replace HB := sqs HB hb; (try clear hb); obtain ⟨hcz36_0, hcz36_1, hfz36_0, hfz36_1⟩ := sqc2 BK272) | (go_at_call 95; (with_reducible refine (impl_Range_empty.calls a1_0 a1_1 false _ A13.out).mono ?_); rintro e w37 ⟨rfl, hb⟩; replace BK272 := sqb BK272 hb; replace BK273 := sqb BK273 hb; replace BK274 := sqb BK274 hb; replace BK275 := sqb BK275 hb; replace HB := sqs HB hb; (try clear hb); obtain ⟨hcz38_0, hcz38_1, hfz38_0, hfz38_1⟩ := sqc2 BK273) | (go_at_call 95; (with_reducible refine (impl_Range_empty.calls a2_0 a2_1 t279 _ A26.out).mono ?_); rintro e w39 ⟨rfl, hb⟩; replace BK272 := sqb BK272 hb; replace BK273 := sqb BK273 hb; replace BK274 := sqb BK274 hb; replace BK275 := sqb BK275 hb; replace HB := sqs HB hb; (try clear hb)))
          go_meet
          case rel => exact ⟨_, (t279), (by first | rfl | (simp; done) | (simp [*]; done)), H', ⟨by first | omega | exact Nat.le_refl _⟩, sqk BK272, sqk BK273, sqk BK274, sqk BK275, sqh HB⟩
      · replace c12 := Bool.eq_false_iff.mpr c12
        subst c12
        have H1 : (impl_RangeCmp.j0 k a0 true a1_0 a1_1 a2_0 a2_1) = some (r1, r2, r3, r4) := by rw [if_neg (show ¬ (false = true) by decide)] at H; exact H
        clear H
        have H := H1
        clear H1
        have H' := Aside0.mk H
        clear H
        have hnb40 := NB272_273.out
        have hnc40 := NB273_272.out
        have hnb41 := NB272_274.out
        have hnc41 := NB274_272.out
        have hnb42 := NB272_275.out
        have hnc42 := NB275_272.out
        obtain ⟨hcz43_0, hcz43_1, hfz43_0, hfz43_1⟩ := sqc2 BK272
        go_wp2_with (first | ((with_reducible refine gate_callee (f := 76) rfl ?_); refine sqL (some 11) Try.func76 #[.agg #[.int .i64 a1_0, .int .i64 a1_1]] ?_; (with_reducible refine (impl_RangeOk.calls a1_0 a1_1 true _ A9.out).mono ?_); rintro e w44 ⟨rfl, hb⟩; refine ⟨_, rfl, ?_⟩; replace BK272 := sqb BK272 hb; replace BK273 := sqb BK273 hb; replace BK274 := sqb BK274 hb; replace BK275 := sqb BK275 hb; replace HB := sqs HB hb; (try clear hb); have hnb45 := NB273_274.out; have hnc45 := NB274_273.out; have hnb46 := NB273_275.out; have hnc46 := NB275_273.out; obtain ⟨hcz47_0, hcz47_1, hfz47_0, hfz47_1⟩ := sqc2 BK273) | (go_at_call 76; (with_reducible refine (impl_RangeOk.calls a2_0 a2_1 false _ A11.out).mono ?_); rintro e w48 ⟨rfl, hb⟩; replace BK272 := sqb BK272 hb; replace BK273 := sqb BK273 hb; replace BK274 := sqb BK274 hb; replace BK275 := sqb BK275 hb; replace HB := sqs HB hb; (try clear hb)))
        go_meet
        case rel => exact ⟨_, (true), (by first | rfl | (simp; done) | (simp [*]; done)), H', ⟨by first | omega | exact Nat.le_refl _⟩, sqk BK272, sqk BK273, sqk BK274, sqk BK275, sqh HB⟩
    · replace c10 := Bool.eq_false_iff.mpr c10
      subst c10
      have H1 : (impl_RangeCmp.j0 k a0 true a1_0 a1_1 a2_0 a2_1) = some (r1, r2, r3, r4) := by rw [if_neg (show ¬ (false = true) by decide)] at H; exact H
      clear H
      have H := H1
      clear H1
      have H' := Aside0.mk H
      clear H
      have hnb49 := NB272_273.out
      have hnc49 := NB273_272.out
      have hnb50 := NB272_274.out
      have hnc50 := NB274_272.out
      have hnb51 := NB272_275.out
      have hnc51 := NB275_272.out
      obtain ⟨hcz52_0, hcz52_1, hfz52_0, hfz52_1⟩ := sqc2 BK272
      go_wp2_with (first | ((with_reducible refine gate_callee (f := 76) rfl ?_); refine sqL (some 11) Try.func76 #[.agg #[.int .i64 a1_0, .int .i64 a1_1]] ?_; (with_reducible refine (impl_RangeOk.calls a1_0 a1_1 false _ A9.out).mono ?_); rintro e w53 ⟨rfl, hb⟩; refine ⟨_, rfl, ?_⟩; replace BK272 := sqb BK272 hb; replace BK273 := sqb BK273 hb; replace BK274 := sqb BK274 hb; replace BK275 := sqb BK275 hb; replace HB := sqs HB hb; (try clear hb)))
      go_meet
      case rel => exact ⟨_, (true), (by first | rfl | (simp; done) | (simp [*]; done)), H', ⟨by first | omega | exact Nat.le_refl _⟩, sqk BK272, sqk BK273, sqk BK274, sqk BK275, sqh HB⟩
  case rest =>
    clear HC4
    obtain ⟨kq, x25_3, rfl, HA, HJ3, BK272, BK273, BK274, BK275, HB⟩ := hcut
    cases kq with
    | zero => exact absurd HA.out (by simp [impl_RangeCmp.j0])
    | succ kj3 =>
      have H := HA.out
      clear HA
      simp only [impl_RangeCmp.j0] at H
      by_cases c54 : x25_3 = true
      · subst c54
        have H1 : ((impl_rangeNone.f).bind fun bt280 => ((impl_rangeNone.f).bind fun bt282 => (some (bt280.1, bt280.2, bt282.1, bt282.2)))) = some (r1, r2, r3, r4) := by rw [if_pos rfl] at H; exact H
        clear H
        have H := H1
        clear H1
        replace H := Option.bind_eq_some_iff.mp H
        obtain ⟨⟨t280, t281⟩, A550, H⟩ := H
        replace H : ((impl_rangeNone.f).bind fun bt282 => (some (t280, t281, bt282.1, bt282.2))) = some (r1, r2, r3, r4) := H
        have A55 := Aside0.mk A550
        clear A550
        replace H := Option.bind_eq_some_iff.mp H
        obtain ⟨⟨t282, t283⟩, A560, H⟩ := H
        replace H : (some (t280, t281, t282, t283)) = some (r1, r2, r3, r4) := H
        have A56 := Aside0.mk A560
        clear A560
        simp only [Option.some.injEq, Prod.mk.injEq] at H
        obtain ⟨rfl, rfl, rfl, rfl⟩ := H
        go_wp2_with (first | ((with_reducible refine gate_callee (f := 126) rfl ?_); refine sqL (some 26) Try.func126 #[] ?_; (with_reducible refine (impl_rangeNone.calls  t280 t281 _ A55.out).mono ?_); rintro e w57 ⟨rfl, hb⟩; refine ⟨_, rfl, ?_⟩; replace BK272 := sqb BK272 hb; replace BK273 := sqb BK273 hb; replace BK274 := sqb BK274 hb; replace BK275 := sqb BK275 hb; replace HB := sqs HB hb; (try clear hb)) | ((with_reducible refine gate_callee (f := 126) rfl ?_); refine sqL (some 27) Try.func126 #[] ?_; (with_reducible refine (impl_rangeNone.calls  t282 t283 _ A56.out).mono ?_); rintro e w58 ⟨rfl, hb⟩; refine ⟨_, rfl, ?_⟩; replace BK272 := sqb BK272 hb; replace BK273 := sqb BK273 hb; replace BK274 := sqb BK274 hb; replace BK275 := sqb BK275 hb; replace HB := sqs HB hb; (try clear hb); have hnb59 := NB274_272.out; have hnc59 := NB272_274.out; have hnb60 := NB274_273.out; have hnc60 := NB273_274.out; have hnb61 := NB274_275.out; have hnc61 := NB275_274.out; obtain ⟨hcz62_0, hcz62_1, hfz62_0, hfz62_1⟩ := sqc2 BK274; have hnb63 := NB275_272.out; have hnc63 := NB272_275.out; have hnb64 := NB275_273.out; have hnc64 := NB273_275.out; obtain ⟨hcz65_0, hcz65_1, hfz65_0, hfz65_1⟩ := sqc2 BK275))
        refine bodyPost_ret (results_cc rfl _ _ gb274 gb275 24 24 #[.int .i64 t280, .int .i64 t281] #[.int .i64 t282, .int .i64 t283] (0, 0) (0, 0) _ _ rfl (by refine sqt ?_; refine blk_far ?_ NB274_275.out _; refine sqt ?_; refine blk_far ?_ NB274_275.out _; refine sqt ?_; refine blk_put (cs := #[.int .i64 t280, .int .i64 0]) ?_ 1 _ rfl; refine sqt ?_; refine blk_put (cs := #[.int .i64 0, .int .i64 0]) ?_ 0 _ rfl; refine sqt ?_; exact BK274.out) Try.underlying24 rfl (by kernel_rfl) rfl (by refine sqt ?_; refine blk_put (cs := #[.int .i64 t282, .int .i64 0]) ?_ 1 _ rfl; refine sqt ?_; refine blk_put (cs := #[.int .i64 0, .int .i64 0]) ?_ 0 _ rfl; refine sqt ?_; refine blk_far ?_ NB275_274.out _; refine sqt ?_; refine blk_far ?_ NB275_274.out _; refine sqt ?_; exact BK275.out) Try.underlying24 rfl (by kernel_rfl)) rfl ?_
        exact sqe HB
      · replace c54 := Bool.eq_false_iff.mpr c54
        subst c54
        have H1 : (if a0 = 1 then ((impl_RangeMeet.f kj3 a1_0 a1_1 a2_0 a2_1).bind fun bt286 => (impl_RangeCmp.j2 kj3 bt286.1 bt286.2 bt286.1 bt286.2)) else (if a0 = 2 then ((impl_rangeWithout.f kj3 a1_0 a1_1 a2_0 a2_1).bind fun bt288 => ((impl_rangeWithout.f kj3 a2_0 a2_1 a1_0 a1_1).bind fun bt290 => (impl_RangeCmp.j2 kj3 bt288.1 bt288.2 bt290.1 bt290.2))) else (if a0 = 3 then ((impl_rangeFrom.f a1_0 (mn a1_1 (wrap64 (a2_1 - 1)))).bind fun bt292 => ((impl_rangeFrom.f (mx a2_0 (wrap64 (a1_0 + 1))) a2_1).bind fun bt294 => (impl_RangeCmp.j2 kj3 bt292.1 bt292.2 bt294.1 bt294.2))) else (if a0 = 4 then ((impl_rangeFrom.f a1_0 (mn a1_1 a2_1)).bind fun bt296 => ((impl_rangeFrom.f (mx a2_0 a1_0) a2_1).bind fun bt298 => (impl_RangeCmp.j2 kj3 bt296.1 bt296.2 bt298.1 bt298.2))) else (if a0 = 5 then (impl_RangeCmp.j1 kj3 a0 (a0 == 5) a1_0 a1_1 a2_0 a2_1) else (impl_RangeCmp.j1 kj3 a0 (a0 == 6) a1_0 a1_1 a2_0 a2_1)))))) = some (r1, r2, r3, r4) := by rw [if_neg (show ¬ (false = true) by decide)] at H; exact H
        clear H
        have H := H1
        clear H1
        have HC66 := Aside0.mk H
        clear H
        go_upto_block 0 with (first | ((with_reducible refine gate_dst (N := 8) rfl ?_); refine sqx 8 #[.int .i64 0, .int .i64 0] 24 ?_; intro gb284 hg w67 hbox hb; have BK284 := Aside0.mk (hbox); have GW284 := sqg HB hg; have GE284 := sqg HB hg; have NB272_284 := sqn BK272 hg; have NB284_272 := sqm BK272 hg; have NB273_284 := sqn BK273 hg; have NB284_273 := sqm BK273 hg; have NB274_284 := sqn BK274 hg; have NB284_274 := sqm BK274 hg; have NB275_284 := sqn BK275 hg; have NB284_275 := sqm BK275 hg; replace BK272 := sqb BK272 hb; replace BK273 := sqb BK273 hb; replace BK274 := sqb BK274 hb; replace BK275 := sqb BK275 hb; replace HB := sqs HB hb; clear hb hbox hg) | ((with_reducible refine gate_dst (N := 9) rfl ?_); refine sqx 9 #[.int .i64 0, .int .i64 0] 24 ?_; intro gb285 hg w68 hbox hb; have BK285 := Aside0.mk (hbox); have GW285 := sqg HB hg; have GE285 := sqg HB hg; have NB272_285 := sqn BK272 hg; have NB285_272 := sqm BK272 hg; have NB273_285 := sqn BK273 hg; have NB285_273 := sqm BK273 hg; have NB274_285 := sqn BK274 hg; have NB285_274 := sqm BK274 hg; have NB275_285 := sqn BK275 hg; have NB285_275 := sqm BK275 hg; have NB284_285 := sqn BK284 hg; have NB285_284 := sqm BK284 hg; replace BK272 := sqb BK272 hb; replace BK273 := sqb BK273 hb; replace BK274 := sqb BK274 hb; replace BK275 := sqb BK275 hb; replace BK284 := sqb BK284 hb; replace HB := sqs HB hb; clear hb hbox hg))
        (try simp only [Act.put, List.setIfInBounds_toArray, List.set_cons_zero, List.set_cons_succ])
        go_cut [] (fun wc => ∃ (kq : Nat) (x275000_65 : Int) (x275001_65 : Int) (x276000_65 : Int) (x276001_65 : Int) (x285000_65 : Int) (x285001_65 : Int) (x286000_65 : Int) (x286001_65 : Int), Aside0 (impl_RangeCmp.j2 kq x285000_65 x285001_65 x286000_65 x286001_65 = some (r1, r2, r3, r4)) ∧ Aside0 (kq ≤ kj3) ∧ Aside0 (wc.heap[gb272]? = some (.cells #[.int .i64 a1_0, .int .i64 a1_1] 24 (0, 0))) ∧ Aside0 (wc.heap[gb273]? = some (.cells #[.int .i64 a2_0, .int .i64 a2_1] 24 (0, 0))) ∧ Aside0 (wc.heap[gb274]? = some (.cells #[.int .i64 x275000_65, .int .i64 x275001_65] 24 (0, 0))) ∧ Aside0 (wc.heap[gb275]? = some (.cells #[.int .i64 x276000_65, .int .i64 x276001_65] 24 (0, 0))) ∧ Aside0 (wc.heap[gb284]? = some (.cells #[.int .i64 x285000_65, .int .i64 x285001_65] 24 (0, 0))) ∧ Aside0 (wc.heap[gb285]? = some (.cells #[.int .i64 x286000_65, .int .i64 x286001_65] 24 (0, 0))) ∧ Aside0 (Below w.heap.size w wc))
        case first =>
          have H := HC66.out
          clear HC66
          by_cases c69 : a0 = 1
          · rw [if_pos c69] at H
            have c69b0 : (a0 == 1) = true := beq_iff_eq.mpr c69
            have c69b1 : (a0 != 1) = false := bne_eq_false_iff_eq.mpr c69
            clear c69
            (first | rw [c69b0] | (simp only [i64_w, i32_w]; rw [c69b0]) | skip)
            replace H := Option.bind_eq_some_iff.mp H
            obtain ⟨⟨t286, t287⟩, A700, H⟩ := H
            replace H : (impl_RangeCmp.j2 kj3 t286 t287 t286 t287) = some (r1, r2, r3, r4) := H
            have A70 := Aside0.mk A700
            clear A700
            have H' := Aside0.mk H
            clear H
            have hnb71 := NB272_273.out
            have hnc71 := NB273_272.out
            have hnb72 := NB272_274.out
            have hnc72 := NB274_272.out
            have hnb73 := NB272_275.out
            have hnc73 := NB275_272.out
            have hnb74 := NB272_284.out
            have hnc74 := NB284_272.out
            have hnb75 := NB272_285.out
            have hnc75 := NB285_272.out
            obtain ⟨hcz76_0, hcz76_1, hfz76_0, hfz76_1⟩ := sqc2 BK272
            have hnb77 := NB273_274.out
            have hnc77 := NB274_273.out
            have hnb78 := NB273_275.out
            have hnc78 := NB275_273.out
            have hnb79 := NB273_284.out
            have hnc79 := NB284_273.out
            have hnb80 := NB273_285.out
            have hnc80 := NB285_273.out
            obtain ⟨hcz81_0, hcz81_1, hfz81_0, hfz81_1⟩ := sqc2 BK273
            go_wp2_with (first | ((with_reducible refine gate_callee (f := 127) rfl ?_); refine sqL (some 35) Try.func127 #[.agg #[.int .i64 a1_0, .int .i64 a1_1], .agg #[.int .i64 a2_0, .int .i64 a2_1]] ?_; (with_reducible refine (impl_RangeMeet.calls kj3 a1_0 a1_1 a2_0 a2_1 t286 t287 _ A70.out).mono ?_); rintro e w82 ⟨rfl, hb⟩; refine ⟨_, rfl, ?_⟩; replace BK272 := sqb BK272 hb; replace BK273 := sqb BK273 hb; replace BK274 := sqb BK274 hb; replace BK275 := sqb BK275 hb; replace BK284 := sqb BK284 hb; replace BK285 := sqb BK285 hb; replace HB := sqs HB hb; (try clear hb); have hnb83 := NB284_274.out; have hnc83 := NB274_284.out; have hnb84 := NB284_275.out; have hnc84 := NB275_284.out; have hnb85 := NB284_285.out; have hnc85 := NB285_284.out; obtain ⟨hcz86_0, hcz86_1, hfz86_0, hfz86_1⟩ := sqc2 BK284; have hnb87 := NB285_274.out; have hnc87 := NB274_285.out; have hnb88 := NB285_275.out; have hnc88 := NB275_285.out; obtain ⟨hcz89_0, hcz89_1, hfz89_0, hfz89_1⟩ := sqc2 BK285))
            go_meet
            case rel => exact ⟨_, (0), (0), (0), (0), (t286), (t287), (t286), (t287), H', ⟨by have := HJ3.out; first | omega | exact Nat.le_refl _⟩, ⟨by refine sqt ?_; refine blk_far ?_ NB272_285.out _; refine sqt ?_; refine blk_far ?_ NB272_285.out _; refine sqt ?_; refine blk_far ?_ NB272_284.out _; refine sqt ?_; refine blk_far ?_ NB272_284.out _; refine sqt ?_; exact BK272.out⟩, ⟨by refine sqt ?_; refine blk_far ?_ NB273_285.out _; refine sqt ?_; refine blk_far ?_ NB273_285.out _; refine sqt ?_; refine blk_far ?_ NB273_284.out _; refine sqt ?_; refine blk_far ?_ NB273_284.out _; refine sqt ?_; exact BK273.out⟩, ⟨by refine sqt ?_; refine blk_far ?_ NB274_285.out _; refine sqt ?_; refine blk_far ?_ NB274_285.out _; refine sqt ?_; refine blk_far ?_ NB274_284.out _; refine sqt ?_; refine blk_far ?_ NB274_284.out _; refine sqt ?_; exact BK274.out⟩, ⟨by refine sqt ?_; refine blk_far ?_ NB275_285.out _; refine sqt ?_; refine blk_far ?_ NB275_285.out _; refine sqt ?_; refine blk_far ?_ NB275_284.out _; refine sqt ?_; refine blk_far ?_ NB275_284.out _; refine sqt ?_; exact BK275.out⟩, ⟨by refine sqt ?_; refine blk_far ?_ NB284_285.out _; refine sqt ?_; refine blk_far ?_ NB284_285.out _; refine sqt ?_; refine blk_put (cs := #[.int .i64 t286, .int .i64 0]) ?_ 1 _ rfl; refine sqt ?_; refine blk_put (cs := #[.int .i64 0, .int .i64 0]) ?_ 0 _ rfl; refine sqt ?_; exact BK284.out⟩, ⟨by refine sqt ?_; refine blk_put (cs := #[.int .i64 t286, .int .i64 0]) ?_ 1 _ rfl; refine sqt ?_; refine blk_put (cs := #[.int .i64 0, .int .i64 0]) ?_ 0 _ rfl; refine sqt ?_; refine blk_far ?_ NB285_284.out _; refine sqt ?_; refine blk_far ?_ NB285_284.out _; refine sqt ?_; exact BK285.out⟩, sqh HB⟩
          · rw [if_neg c69] at H
            have c69b0 : (a0 == 1) = false := beq_eq_false_iff_ne.mpr c69
            have c69b1 : (a0 != 1) = true := bne_iff_ne.mpr c69
            (first | rw [c69b0] | (simp only [i64_w, i32_w]; rw [c69b0]) | skip)
            by_cases c90 : a0 = 2
            · rw [if_pos c90] at H
              have c90b0 : (a0 == 2) = true := beq_iff_eq.mpr c90
              have c90b1 : (a0 != 2) = false := bne_eq_false_iff_eq.mpr c90
              clear c90
              replace H := Option.bind_eq_some_iff.mp H
              obtain ⟨⟨t288, t289⟩, A910, H⟩ := H
              replace H : ((impl_rangeWithout.f kj3 a2_0 a2_1 a1_0 a1_1).bind fun bt290 => (impl_RangeCmp.j2 kj3 t288 t289 bt290.1 bt290.2)) = some (r1, r2, r3, r4) := H
              have A91 := Aside0.mk A910
              clear A910
              replace H := Option.bind_eq_some_iff.mp H
              obtain ⟨⟨t290, t291⟩, A920, H⟩ := H
              replace H : (impl_RangeCmp.j2 kj3 t288 t289 t290 t291) = some (r1, r2, r3, r4) := H
              have A92 := Aside0.mk A920
              clear A920
              have H' := Aside0.mk H
              clear H
              try go_wp2
              replace BK272 := Aside0.mk (blk_drew BK272.out)
              replace BK273 := Aside0.mk (blk_drew BK273.out)
              replace BK274 := Aside0.mk (blk_drew BK274.out)
              replace BK275 := Aside0.mk (blk_drew BK275.out)
              replace BK284 := Aside0.mk (blk_drew BK284.out)
              replace BK285 := Aside0.mk (blk_drew BK285.out)
              replace HB := Aside0.mk (below_drew1 HB.out)
              refine start_ (n := 8) (S := fun w' => w'.cell? ⟨gb272, 0, none⟩ = some (.int .i64 a1_0) ∧ w'.cell? ⟨gb272, 1, none⟩ = some (.int .i64 a1_1) ∧ w'.cell? ⟨gb273, 0, none⟩ = some (.int .i64 a2_0) ∧ w'.cell? ⟨gb273, 1, none⟩ = some (.int .i64 a2_1)) (ds := []) #[false, false, false, false, false, false, false, false] (by kernel_rfl) rfl rfl ⟨(blk_cell BK272.out 0).trans rfl, (blk_cell BK272.out 1).trans rfl, (blk_cell BK273.out 0).trans rfl, (blk_cell BK273.out 1).trans rfl⟩ (fun hHeld => ?_); refine with_tabW impl_RangeCmp.tab10 impl_RangeCmp.bits10 (fun HT_ HW_ => ?_)
              generalize w68.drew = w93 at BK272 BK273 BK274 BK275 BK284 BK285 HB hHeld ⊢
              refine sqw HT_ HW_ 0 39 hHeld ?_
              refine sqw HT_ HW_ 1 40 hHeld ?_
              refine sqw HT_ HW_ 3 42 hHeld ?_
              refine sqw HT_ HW_ 4 43 hHeld ?_
              refine sqo HT_ 2 41 (fun K hK => ?_)
              refine sqG Try.func128 #[.agg #[.int .i64 a1_0, .int .i64 a1_1], .agg #[.int .i64 a2_0, .int .i64 a2_1]] ?_
              with_reducible refine (impl_rangeWithout.calls kj3 a1_0 a1_1 a2_0 a2_1 t288 t289 _ A91.out).mono ?_
              rintro e w94 ⟨rfl, hb⟩
              refine ⟨_, rfl, ?_⟩
              replace BK272 := sqb BK272 hb
              replace BK273 := sqb BK273 hb
              replace BK274 := sqb BK274 hb
              replace BK275 := sqb BK275 hb
              replace BK284 := sqb BK284 hb
              replace BK285 := sqb BK285 hb
              replace HB := sqs HB hb
              (try clear hb)
              refine hK.out _ _ sqz (fun hHeld => ?_)
              clear hK K
              refine sqnm ?_
              refine sqo HT_ 5 44 (fun K hK => ?_)
              refine sqG Try.func128 #[.agg #[.int .i64 a2_0, .int .i64 a2_1], .agg #[.int .i64 a1_0, .int .i64 a1_1]] ?_
              with_reducible refine (impl_rangeWithout.calls kj3 a2_0 a2_1 a1_0 a1_1 t290 t291 _ A92.out).mono ?_
              rintro e w95 ⟨rfl, hb⟩
              refine ⟨_, rfl, ?_⟩
              replace BK272 := sqb BK272 hb
              replace BK273 := sqb BK273 hb
              replace BK274 := sqb BK274 hb
              replace BK275 := sqb BK275 hb
              replace BK284 := sqb BK284 hb
              replace BK285 := sqb BK285 hb
              replace HB := sqs HB hb
              (try clear hb)
              refine hK.out _ _ sqz (fun hHeld => ?_)
              clear hK K
              refine sqnm ?_
              refine one_ (i := 6) (N := none) #[true, true, true, true, true, true, true, false] rfl rfl (one_of HT_.out (by kernel_rfl)) (by decide) (fun K hK => ?_)
              have hs96 : w95.cell? ⟨gb284, 0, none⟩ = some (.int .i64 0) := (blk_cell BK284.out 0).trans rfl
              have hfs96 := blk_frozen BK284.out 0
              have hns96_0 := NB272_284.out
              have hns96_1 := NB273_284.out
              have hns96_2 := NB274_284.out
              have hns96_3 := NB275_284.out
              have hns96_5 := NB285_284.out
              have hms96_0 := NB284_272.out
              have hms96_1 := NB284_273.out
              have hms96_2 := NB284_274.out
              have hms96_3 := NB284_275.out
              have hms96_5 := NB284_285.out
              have hs97 : w95.cell? ⟨gb284, 1, none⟩ = some (.int .i64 0) := (blk_cell BK284.out 1).trans rfl
              have hfs97 := blk_frozen BK284.out 1
              have hns97_0 := NB272_284.out
              have hns97_1 := NB273_284.out
              have hns97_2 := NB274_284.out
              have hns97_3 := NB275_284.out
              have hns97_5 := NB285_284.out
              have hms97_0 := NB284_272.out
              have hms97_1 := NB284_273.out
              have hms97_2 := NB284_274.out
              have hms97_3 := NB284_275.out
              have hms97_5 := NB284_285.out
              refine skip_ (w1 := ?_) (by rfl) rfl ?_ ?_
              rotate_left
              · go_simp
                rfl
              refine hK.out _ _ ⟨((cell_far (p := ⟨gb284, _, none⟩) NB272_284.out _).trans (((cell_far (p := ⟨gb284, _, none⟩) NB272_284.out _).trans (hHeld.1)))), ((cell_far (p := ⟨gb284, _, none⟩) NB272_284.out _).trans (((cell_far (p := ⟨gb284, _, none⟩) NB272_284.out _).trans (hHeld.2.1)))), ((cell_far (p := ⟨gb284, _, none⟩) NB273_284.out _).trans (((cell_far (p := ⟨gb284, _, none⟩) NB273_284.out _).trans (hHeld.2.2.1)))), ((cell_far (p := ⟨gb284, _, none⟩) NB273_284.out _).trans (((cell_far (p := ⟨gb284, _, none⟩) NB273_284.out _).trans (hHeld.2.2.2))))⟩ (fun hHeld => ?_)
              clear hK K
              refine one_ (i := 7) (N := none) #[true, true, true, true, true, true, true, true] rfl rfl (one_of HT_.out (by kernel_rfl)) (by decide) (fun K hK => ?_)
              have hs98 : w95.cell? ⟨gb285, 0, none⟩ = some (.int .i64 0) := (blk_cell BK285.out 0).trans rfl
              have hfs98 := blk_frozen BK285.out 0
              have hns98_0 := NB272_285.out
              have hns98_1 := NB273_285.out
              have hns98_2 := NB274_285.out
              have hns98_3 := NB275_285.out
              have hns98_4 := NB284_285.out
              have hms98_0 := NB285_272.out
              have hms98_1 := NB285_273.out
              have hms98_2 := NB285_274.out
              have hms98_3 := NB285_275.out
              have hms98_4 := NB285_284.out
              have hs99 : w95.cell? ⟨gb285, 1, none⟩ = some (.int .i64 0) := (blk_cell BK285.out 1).trans rfl
              have hfs99 := blk_frozen BK285.out 1
              have hns99_0 := NB272_285.out
              have hns99_1 := NB273_285.out
              have hns99_2 := NB274_285.out
              have hns99_3 := NB275_285.out
              have hns99_4 := NB284_285.out
              have hms99_0 := NB285_272.out
              have hms99_1 := NB285_273.out
              have hms99_2 := NB285_274.out
              have hms99_3 := NB285_275.out
              have hms99_4 := NB285_284.out
              refine skip_ (w1 := ?_) (by rfl) rfl ?_ ?_
              rotate_left
              · go_simp
                rfl
              refine hK.out _ _ ⟨((cell_far (p := ⟨gb285, _, none⟩) NB272_285.out _).trans (((cell_far (p := ⟨gb285, _, none⟩) NB272_285.out _).trans (hHeld.1)))), ((cell_far (p := ⟨gb285, _, none⟩) NB272_285.out _).trans (((cell_far (p := ⟨gb285, _, none⟩) NB272_285.out _).trans (hHeld.2.1)))), ((cell_far (p := ⟨gb285, _, none⟩) NB273_285.out _).trans (((cell_far (p := ⟨gb285, _, none⟩) NB273_285.out _).trans (hHeld.2.2.1)))), ((cell_far (p := ⟨gb285, _, none⟩) NB273_285.out _).trans (((cell_far (p := ⟨gb285, _, none⟩) NB273_285.out _).trans (hHeld.2.2.2))))⟩ (fun hHeld => ?_)
              clear hK K
              refine done_ (done_of HT_.out (by kernel_rfl)) ?_
              try go_wp2
              go_meet
              case rel => exact ⟨_, (0), (0), (0), (0), (t288), (t289), (t290), (t291), H', ⟨by have := HJ3.out; first | omega | exact Nat.le_refl _⟩, ⟨by refine sqt ?_; refine blk_far ?_ NB272_285.out _; refine sqt ?_; refine blk_far ?_ NB272_285.out _; refine sqt ?_; refine blk_far ?_ NB272_284.out _; refine sqt ?_; refine blk_far ?_ NB272_284.out _; refine sqt ?_; exact BK272.out⟩, ⟨by refine sqt ?_; refine blk_far ?_ NB273_285.out _; refine sqt ?_; refine blk_far ?_ NB273_285.out _; refine sqt ?_; refine blk_far ?_ NB273_284.out _; refine sqt ?_; refine blk_far ?_ NB273_284.out _; refine sqt ?_; exact BK273.out⟩, ⟨by refine sqt ?_; refine blk_far ?_ NB274_285.out _; refine sqt ?_; refine blk_far ?_ NB274_285.out _; refine sqt ?_; refine blk_far ?_ NB274_284.out _; refine sqt ?_; refine blk_far ?_ NB274_284.out _; refine sqt ?_; exact BK274.out⟩, ⟨by refine sqt ?_; refine blk_far ?_ NB275_285.out _; refine sqt ?_; refine blk_far ?_ NB275_285.out _; refine sqt ?_; refine blk_far ?_ NB275_284.out _; refine sqt ?_; refine blk_far ?_ NB275_284.out _; refine sqt ?_; exact BK275.out⟩, ⟨by refine sqt ?_; refine blk_far ?_ NB284_285.out _; refine sqt ?_; refine blk_far ?_ NB284_285.out _; refine sqt ?_; refine blk_put (cs := #[.int .i64 t288, .int .i64 0]) ?_ 1 _ rfl; refine sqt ?_; refine blk_put (cs := #[.int .i64 0, .int .i64 0]) ?_ 0 _ rfl; refine sqt ?_; exact BK284.out⟩, ⟨by refine sqt ?_; refine blk_put (cs := #[.int .i64 t290, .int .i64 0]) ?_ 1 _ rfl; refine sqt ?_; refine blk_put (cs := #[.int .i64 0, .int .i64 0]) ?_ 0 _ rfl; refine sqt ?_; refine blk_far ?_ NB285_284.out _; refine sqt ?_; refine blk_far ?_ NB285_284.out _; refine sqt ?_; exact BK285.out⟩, sqh HB⟩
            · rw [if_neg c90] at H
              have c90b0 : (a0 == 2) = false := beq_eq_false_iff_ne.mpr c90
              have c90b1 : (a0 != 2) = true := bne_iff_ne.mpr c90
              by_cases c100 : a0 = 3
              · rw [if_pos c100] at H
                have c100b0 : (a0 == 3) = true := beq_iff_eq.mpr c100
                have c100b1 : (a0 != 3) = false := bne_eq_false_iff_eq.mpr c100
                clear c100
                obtain ⟨ji101, hji101⟩ : ∃ j_ : Int, (mn a1_1 (wrap64 (a2_1 - 1))) = j_ := ⟨_, rfl⟩
                replace H : ((impl_rangeFrom.f a1_0 (ji101)).bind fun bt292 => ((impl_rangeFrom.f (mx a2_0 (wrap64 (a1_0 + 1))) a2_1).bind fun bt294 => (impl_RangeCmp.j2 kj3 bt292.1 bt292.2 bt294.1 bt294.2))) = some (r1, r2, r3, r4) := by first | (rw [hji101] at H; exact H) | (simp only [hji101] at H ⊢; exact H)
                have hji101_ : (if (wrap64 (a2_1 - 1)) < a1_1 then (wrap64 (a2_1 - 1)) else a1_1) = ji101 := hji101
                replace H := Option.bind_eq_some_iff.mp H
                obtain ⟨⟨t292, t293⟩, A1020, H⟩ := H
                replace H : ((impl_rangeFrom.f (mx a2_0 (wrap64 (a1_0 + 1))) a2_1).bind fun bt294 => (impl_RangeCmp.j2 kj3 t292 t293 bt294.1 bt294.2)) = some (r1, r2, r3, r4) := H
                have A102 := Aside0.mk A1020
                clear A1020
                obtain ⟨ji103, hji103⟩ : ∃ j_ : Int, (mx a2_0 (wrap64 (a1_0 + 1))) = j_ := ⟨_, rfl⟩
                replace H : ((impl_rangeFrom.f (ji103) a2_1).bind fun bt294 => (impl_RangeCmp.j2 kj3 t292 t293 bt294.1 bt294.2)) = some (r1, r2, r3, r4) := by first | (rw [hji103] at H; exact H) | (simp only [hji103] at H ⊢; exact H)
                (try rw [hji103] at A102)
                have hji103_ : (if a2_0 < (wrap64 (a1_0 + 1)) then (wrap64 (a1_0 + 1)) else a2_0) = ji103 := hji103
                replace H := Option.bind_eq_some_iff.mp H
                obtain ⟨⟨t294, t295⟩, A1040, H⟩ := H
                replace H : (impl_RangeCmp.j2 kj3 t292 t293 t294 t295) = some (r1, r2, r3, r4) := H
                have A104 := Aside0.mk A1040
                clear A1040
                have H' := Aside0.mk H
                clear H
                have hnb105 := NB272_273.out
                have hnc105 := NB273_272.out
                have hnb106 := NB272_274.out
                have hnc106 := NB274_272.out
                have hnb107 := NB272_275.out
                have hnc107 := NB275_272.out
                have hnb108 := NB272_284.out
                have hnc108 := NB284_272.out
                have hnb109 := NB272_285.out
                have hnc109 := NB285_272.out
                obtain ⟨hcz110_0, hcz110_1, hfz110_0, hfz110_1⟩ := sqc2 BK272
                have hnb111 := NB273_274.out
                have hnc111 := NB274_273.out
                have hnb112 := NB273_275.out
                have hnc112 := NB275_273.out
                have hnb113 := NB273_284.out
                have hnc113 := NB284_273.out
                have hnb114 := NB273_285.out
                have hnc114 := NB285_273.out
                obtain ⟨hcz115_0, hcz115_1, hfz115_0, hfz115_1⟩ := sqc2 BK273
                go_wp2_with (first | ((with_reducible refine gate_callee (f := 129) rfl ?_); refine goesL_ (some 55) rfl rfl Try.func129 (by kernel_rfl) rfl #[.int .i64 a1_0, .int .i64 ji101] rfl (by (try simp only [List.map_toArray, List.map_cons, List.map_nil]); first | done | (simp only [hji101]; rfl) | rfl | (simp only [List.length_drop, List.length_take]; rfl)) ?_; (with_reducible refine (impl_rangeFrom.calls a1_0 ji101 t292 t293 _ A102.out).mono ?_); rintro e w116 ⟨rfl, hb⟩; refine ⟨_, rfl, ?_⟩; replace BK272 := sqb BK272 hb; replace BK273 := sqb BK273 hb; replace BK274 := sqb BK274 hb; replace BK275 := sqb BK275 hb; replace BK284 := sqb BK284 hb; replace BK285 := sqb BK285 hb; replace HB := sqs HB hb; (try clear hb); have hnb117 := NB284_274.out; have hnc117 := NB274_284.out; have hnb118 := NB284_275.out; have hnc118 := NB275_284.out; have hnb119 := NB284_285.out; have hnc119 := NB285_284.out; obtain ⟨hcz120_0, hcz120_1, hfz120_0, hfz120_1⟩ := sqc2 BK284; obtain ⟨hcz121_0, hcz121_1, hfz121_0, hfz121_1⟩ := sqc2 BK273; obtain ⟨hcz122_0, hcz122_1, hfz122_0, hfz122_1⟩ := sqc2 BK272) | ((with_reducible refine gate_callee (f := 129) rfl ?_); refine goesL_ (some 64) rfl rfl Try.func129 (by kernel_rfl) rfl #[.int .i64 ji103, .int .i64 a2_1] rfl (by (try simp only [List.map_toArray, List.map_cons, List.map_nil]); first | done | (simp only [hji103]; rfl) | rfl | (simp only [List.length_drop, List.length_take]; rfl)) ?_; (with_reducible refine (impl_rangeFrom.calls ji103 a2_1 t294 t295 _ A104.out).mono ?_); rintro e w123 ⟨rfl, hb⟩; refine ⟨_, rfl, ?_⟩; have n0_ := Aside0.mk (blk_below (g := gb272) (o := .cells #[.int .i64 a1_0, .int .i64 a1_1] 24 (0, 0)) (by refine sqt ?_; refine blk_far ?_ NB272_284.out _; refine sqt ?_; refine blk_far ?_ NB272_284.out _; refine sqt ?_; exact BK272.out) hb); have n1_ := Aside0.mk (blk_below (g := gb273) (o := .cells #[.int .i64 a2_0, .int .i64 a2_1] 24 (0, 0)) (by refine sqt ?_; refine blk_far ?_ NB273_284.out _; refine sqt ?_; refine blk_far ?_ NB273_284.out _; refine sqt ?_; exact BK273.out) hb); have n2_ := Aside0.mk (blk_below (g := gb274) (o := .cells #[.int .i64 0, .int .i64 0] 24 (0, 0)) (by refine sqt ?_; refine blk_far ?_ NB274_284.out _; refine sqt ?_; refine blk_far ?_ NB274_284.out _; refine sqt ?_; exact BK274.out) hb); have n3_ := Aside0.mk (blk_below (g := gb275) (o := .cells #[.int .i64 0, .int .i64 0] 24 (0, 0)) (by refine sqt ?_; refine blk_far ?_ NB275_284.out _; refine sqt ?_; refine blk_far ?_ NB275_284.out _; refine sqt ?_; exact BK275.out) hb); have n4_ := Aside0.mk (blk_below (g := gb284) (o := .cells #[.int .i64 t292, .int .i64 t293] 24 (0, 0)) (by refine sqt ?_; refine blk_put (cs := #[.int .i64 t292, .int .i64 0]) ?_ 1 _ rfl; refine sqt ?_; refine blk_put (cs := #[.int .i64 0, .int .i64 0]) ?_ 0 _ rfl; refine sqt ?_; exact BK284.out) hb); have n5_ := Aside0.mk (blk_below (g := gb285) (o := .cells #[.int .i64 0, .int .i64 0] 24 (0, 0)) (by refine sqt ?_; refine blk_far ?_ NB285_284.out _; refine sqt ?_; refine blk_far ?_ NB285_284.out _; refine sqt ?_; exact BK285.out) hb); have n6_ := sqs HB hb; clear BK272; clear BK273; clear BK274; clear BK275; clear BK284; clear BK285; clear HB; have BK272 := n0_; have BK273 := n1_; have BK274 := n2_; have BK275 := n3_; have BK284 := n4_; have BK285 := n5_; have HB := n6_; clear n0_ n1_ n2_ n3_ n4_ n5_ n6_; (try clear hb); have hnb124 := NB285_274.out; have hnc124 := NB274_285.out; have hnb125 := NB285_275.out; have hnc125 := NB275_285.out; obtain ⟨hcz126_0, hcz126_1, hfz126_0, hfz126_1⟩ := sqc2 BK285))
                go_meet
                case rel => exact ⟨_, (0), (0), (0), (0), (t292), (t293), (t294), (t295), H', ⟨by have := HJ3.out; first | omega | exact Nat.le_refl _⟩, ⟨by refine sqt ?_; refine blk_far ?_ NB272_285.out _; refine sqt ?_; refine blk_far ?_ NB272_285.out _; refine sqt ?_; exact BK272.out⟩, ⟨by refine sqt ?_; refine blk_far ?_ NB273_285.out _; refine sqt ?_; refine blk_far ?_ NB273_285.out _; refine sqt ?_; exact BK273.out⟩, ⟨by refine sqt ?_; refine blk_far ?_ NB274_285.out _; refine sqt ?_; refine blk_far ?_ NB274_285.out _; refine sqt ?_; exact BK274.out⟩, ⟨by refine sqt ?_; refine blk_far ?_ NB275_285.out _; refine sqt ?_; refine blk_far ?_ NB275_285.out _; refine sqt ?_; exact BK275.out⟩, ⟨by refine sqt ?_; refine blk_far ?_ NB284_285.out _; refine sqt ?_; refine blk_far ?_ NB284_285.out _; refine sqt ?_; exact BK284.out⟩, ⟨by refine sqt ?_; refine blk_put (cs := #[.int .i64 t294, .int .i64 0]) ?_ 1 _ rfl; refine sqt ?_; refine blk_put (cs := #[.int .i64 0, .int .i64 0]) ?_ 0 _ rfl; refine sqt ?_; exact BK285.out⟩, sqh HB⟩
              · rw [if_neg c100] at H
                have c100b0 : (a0 == 3) = false := beq_eq_false_iff_ne.mpr c100
                have c100b1 : (a0 != 3) = true := bne_iff_ne.mpr c100
                by_cases c127 : a0 = 4
                · rw [if_pos c127] at H
                  have c127b0 : (a0 == 4) = true := beq_iff_eq.mpr c127
                  have c127b1 : (a0 != 4) = false := bne_eq_false_iff_eq.mpr c127
                  clear c127
                  obtain ⟨ji128, hji128⟩ : ∃ j_ : Int, (mn a1_1 a2_1) = j_ := ⟨_, rfl⟩
                  replace H : ((impl_rangeFrom.f a1_0 (ji128)).bind fun bt296 => ((impl_rangeFrom.f (mx a2_0 a1_0) a2_1).bind fun bt298 => (impl_RangeCmp.j2 kj3 bt296.1 bt296.2 bt298.1 bt298.2))) = some (r1, r2, r3, r4) := by first | (rw [hji128] at H; exact H) | (simp only [hji128] at H ⊢; exact H)
                  have hji128_ : (if a2_1 < a1_1 then a2_1 else a1_1) = ji128 := hji128
                  replace H := Option.bind_eq_some_iff.mp H
                  obtain ⟨⟨t296, t297⟩, A1290, H⟩ := H
                  replace H : ((impl_rangeFrom.f (mx a2_0 a1_0) a2_1).bind fun bt298 => (impl_RangeCmp.j2 kj3 t296 t297 bt298.1 bt298.2)) = some (r1, r2, r3, r4) := H
                  have A129 := Aside0.mk A1290
                  clear A1290
                  obtain ⟨ji130, hji130⟩ : ∃ j_ : Int, (mx a2_0 a1_0) = j_ := ⟨_, rfl⟩
                  replace H : ((impl_rangeFrom.f (ji130) a2_1).bind fun bt298 => (impl_RangeCmp.j2 kj3 t296 t297 bt298.1 bt298.2)) = some (r1, r2, r3, r4) := by first | (rw [hji130] at H; exact H) | (simp only [hji130] at H ⊢; exact H)
                  (try rw [hji130] at A129)
                  have hji130_ : (if a2_0 < a1_0 then a1_0 else a2_0) = ji130 := hji130
                  replace H := Option.bind_eq_some_iff.mp H
                  obtain ⟨⟨t298, t299⟩, A1310, H⟩ := H
                  replace H : (impl_RangeCmp.j2 kj3 t296 t297 t298 t299) = some (r1, r2, r3, r4) := H
                  have A131 := Aside0.mk A1310
                  clear A1310
                  have H' := Aside0.mk H
                  clear H
                  have hnb132 := NB272_273.out
                  have hnc132 := NB273_272.out
                  have hnb133 := NB272_274.out
                  have hnc133 := NB274_272.out
                  have hnb134 := NB272_275.out
                  have hnc134 := NB275_272.out
                  have hnb135 := NB272_284.out
                  have hnc135 := NB284_272.out
                  have hnb136 := NB272_285.out
                  have hnc136 := NB285_272.out
                  obtain ⟨hcz137_0, hcz137_1, hfz137_0, hfz137_1⟩ := sqc2 BK272
                  have hnb138 := NB273_274.out
                  have hnc138 := NB274_273.out
                  have hnb139 := NB273_275.out
                  have hnc139 := NB275_273.out
                  have hnb140 := NB273_284.out
                  have hnc140 := NB284_273.out
                  have hnb141 := NB273_285.out
                  have hnc141 := NB285_273.out
                  obtain ⟨hcz142_0, hcz142_1, hfz142_0, hfz142_1⟩ := sqc2 BK273
                  go_wp2_with (first | ((with_reducible refine gate_callee (f := 129) rfl ?_); refine goesL_ (some 74) rfl rfl Try.func129 (by kernel_rfl) rfl #[.int .i64 a1_0, .int .i64 ji128] rfl (by (try simp only [List.map_toArray, List.map_cons, List.map_nil]); first | done | (simp only [hji128]; rfl) | rfl | (simp only [List.length_drop, List.length_take]; rfl)) ?_; (with_reducible refine (impl_rangeFrom.calls a1_0 ji128 t296 t297 _ A129.out).mono ?_); rintro e w143 ⟨rfl, hb⟩; refine ⟨_, rfl, ?_⟩; replace BK272 := sqb BK272 hb; replace BK273 := sqb BK273 hb; replace BK274 := sqb BK274 hb; replace BK275 := sqb BK275 hb; replace BK284 := sqb BK284 hb; replace BK285 := sqb BK285 hb; replace HB := sqs HB hb; (try clear hb); have hnb144 := NB284_274.out; have hnc144 := NB274_284.out; have hnb145 := NB284_275.out; have hnc145 := NB275_284.out; have hnb146 := NB284_285.out; have hnc146 := NB285_284.out; obtain ⟨hcz147_0, hcz147_1, hfz147_0, hfz147_1⟩ := sqc2 BK284; obtain ⟨hcz148_0, hcz148_1, hfz148_0, hfz148_1⟩ := sqc2 BK273; obtain ⟨hcz149_0, hcz149_1, hfz149_0, hfz149_1⟩ := sqc2 BK272) | ((with_reducible refine gate_callee (f := 129) rfl ?_); refine goesL_ (some 82) rfl rfl Try.func129 (by kernel_rfl) rfl #[.int .i64 ji130, .int .i64 a2_1] rfl (by (try simp only [List.map_toArray, List.map_cons, List.map_nil]); first | done | (simp only [hji130]; rfl) | rfl | (simp only [List.length_drop, List.length_take]; rfl)) ?_; (with_reducible refine (impl_rangeFrom.calls ji130 a2_1 t298 t299 _ A131.out).mono ?_); rintro e w150 ⟨rfl, hb⟩; refine ⟨_, rfl, ?_⟩; have n0_ := Aside0.mk (blk_below (g := gb272) (o := .cells #[.int .i64 a1_0, .int .i64 a1_1] 24 (0, 0)) (by refine sqt ?_; refine blk_far ?_ NB272_284.out _; refine sqt ?_; refine blk_far ?_ NB272_284.out _; refine sqt ?_; exact BK272.out) hb); have n1_ := Aside0.mk (blk_below (g := gb273) (o := .cells #[.int .i64 a2_0, .int .i64 a2_1] 24 (0, 0)) (by refine sqt ?_; refine blk_far ?_ NB273_284.out _; refine sqt ?_; refine blk_far ?_ NB273_284.out _; refine sqt ?_; exact BK273.out) hb); have n2_ := Aside0.mk (blk_below (g := gb274) (o := .cells #[.int .i64 0, .int .i64 0] 24 (0, 0)) (by refine sqt ?_; refine blk_far ?_ NB274_284.out _; refine sqt ?_; refine blk_far ?_ NB274_284.out _; refine sqt ?_; exact BK274.out) hb); have n3_ := Aside0.mk (blk_below (g := gb275) (o := .cells #[.int .i64 0, .int .i64 0] 24 (0, 0)) (by refine sqt ?_; refine blk_far ?_ NB275_284.out _; refine sqt ?_; refine blk_far ?_ NB275_284.out _; refine sqt ?_; exact BK275.out) hb); have n4_ := Aside0.mk (blk_below (g := gb284) (o := .cells #[.int .i64 t296, .int .i64 t297] 24 (0, 0)) (by refine sqt ?_; refine blk_put (cs := #[.int .i64 t296, .int .i64 0]) ?_ 1 _ rfl; refine sqt ?_; refine blk_put (cs := #[.int .i64 0, .int .i64 0]) ?_ 0 _ rfl; refine sqt ?_; exact BK284.out) hb); have n5_ := Aside0.mk (blk_below (g := gb285) (o := .cells #[.int .i64 0, .int .i64 0] 24 (0, 0)) (by refine sqt ?_; refine blk_far ?_ NB285_284.out _; refine sqt ?_; refine blk_far ?_ NB285_284.out _; refine sqt ?_; exact BK285.out) hb); have n6_ := sqs HB hb; clear BK272; clear BK273; clear BK274; clear BK275; clear BK284; clear BK285; clear HB; have BK272 := n0_; have BK273 := n1_; have BK274 := n2_; have BK275 := n3_; have BK284 := n4_; have BK285 := n5_; have HB := n6_; clear n0_ n1_ n2_ n3_ n4_ n5_ n6_; (try clear hb); have hnb151 := NB285_274.out; have hnc151 := NB274_285.out; have hnb152 := NB285_275.out; have hnc152 := NB275_285.out; obtain ⟨hcz153_0, hcz153_1, hfz153_0, hfz153_1⟩ := sqc2 BK285))
                  go_meet
                  case rel => exact ⟨_, (0), (0), (0), (0), (t296), (t297), (t298), (t299), H', ⟨by have := HJ3.out; first | omega | exact Nat.le_refl _⟩, ⟨by refine sqt ?_; refine blk_far ?_ NB272_285.out _; refine sqt ?_; refine blk_far ?_ NB272_285.out _; refine sqt ?_; exact BK272.out⟩, ⟨by refine sqt ?_; refine blk_far ?_ NB273_285.out _; refine sqt ?_; refine blk_far ?_ NB273_285.out _; refine sqt ?_; exact BK273.out⟩, ⟨by refine sqt ?_; refine blk_far ?_ NB274_285.out _; refine sqt ?_; refine blk_far ?_ NB274_285.out _; refine sqt ?_; exact BK274.out⟩, ⟨by refine sqt ?_; refine blk_far ?_ NB275_285.out _; refine sqt ?_; refine blk_far ?_ NB275_285.out _; refine sqt ?_; exact BK275.out⟩, ⟨by refine sqt ?_; refine blk_far ?_ NB284_285.out _; refine sqt ?_; refine blk_far ?_ NB284_285.out _; refine sqt ?_; exact BK284.out⟩, ⟨by refine sqt ?_; refine blk_put (cs := #[.int .i64 t298, .int .i64 0]) ?_ 1 _ rfl; refine sqt ?_; refine blk_put (cs := #[.int .i64 0, .int .i64 0]) ?_ 0 _ rfl; refine sqt ?_; exact BK285.out⟩, sqh HB⟩
                · rw [if_neg c127] at H
                  have c127b0 : (a0 == 4) = false := beq_eq_false_iff_ne.mpr c127
                  have c127b1 : (a0 != 4) = true := bne_iff_ne.mpr c127
                  have HC154 := Aside0.mk H
                  clear H
                  go_upto_if 83 with (fail)
                  go_cut [83] (fun v83 wc => ∃ (kq : Nat) (x83_153 : Bool), v83 = .bool x83_153 ∧ Aside0 (impl_RangeCmp.j1 kq a0 x83_153 a1_0 a1_1 a2_0 a2_1 = some (r1, r2, r3, r4)) ∧ Aside0 (kq ≤ kj3) ∧ Aside0 (wc.heap[gb272]? = some (.cells #[.int .i64 a1_0, .int .i64 a1_1] 24 (0, 0))) ∧ Aside0 (wc.heap[gb273]? = some (.cells #[.int .i64 a2_0, .int .i64 a2_1] 24 (0, 0))) ∧ Aside0 (wc.heap[gb274]? = some (.cells #[.int .i64 0, .int .i64 0] 24 (0, 0))) ∧ Aside0 (wc.heap[gb275]? = some (.cells #[.int .i64 0, .int .i64 0] 24 (0, 0))) ∧ Aside0 (wc.heap[gb284]? = some (.cells #[.int .i64 0, .int .i64 0] 24 (0, 0))) ∧ Aside0 (wc.heap[gb285]? = some (.cells #[.int .i64 0, .int .i64 0] 24 (0, 0))) ∧ Aside0 (Below w.heap.size w wc))
                  case first =>
                    have H := HC154.out
                    clear HC154
                    by_cases c155 : a0 = 5
                    · rw [if_pos c155] at H
                      have c155b0 : (a0 == 5) = true := beq_iff_eq.mpr c155
                      have c155b1 : (a0 != 5) = false := bne_eq_false_iff_eq.mpr c155
                      clear c155
                      (first | rw [c155b0] | (simp only [i64_w, i32_w]; rw [c155b0]) | skip)
                      have H' := Aside0.mk H
                      clear H
                      go_wp2
                      go_meet
                      case rel => exact ⟨_, ((a0 == 5)), (by first | rfl | (simp; done) | (simp [*]; done)), H', ⟨by have := HJ3.out; first | omega | exact Nat.le_refl _⟩, sqk BK272, sqk BK273, sqk BK274, sqk BK275, sqk BK284, sqk BK285, sqh HB⟩
                    · rw [if_neg c155] at H
                      have c155b0 : (a0 == 5) = false := beq_eq_false_iff_ne.mpr c155
                      have c155b1 : (a0 != 5) = true := bne_iff_ne.mpr c155
                      (first | rw [c155b0] | (simp only [i64_w, i32_w]; rw [c155b0]) | skip)
                      have H' := Aside0.mk H
                      clear H
                      go_wp2
                      go_meet
                      case rel => exact ⟨_, ((a0 == 6)), (by first | rfl | (simp; done) | (simp [*]; done)), H', ⟨by have := HJ3.out; first | omega | exact Nat.le_refl _⟩, sqk BK272, sqk BK273, sqk BK274, sqk BK275, sqk BK284, sqk BK285, sqh HB⟩
                  case rest =>
                    clear HC154
                    try clear c10
                    try clear c12
                    try clear c14
                    try clear c54
                    try clear c69
                    try clear c69b0
                    try clear c69b1
                    try clear c90
                    try clear c90b0
                    try clear c90b1
                    try clear c100
                    try clear c100b0
                    try clear c100b1
                    try clear c127
                    try clear c127b0
                    try clear c127b1
                    try clear hcz110_0
                    try clear hcz110_1
                    try clear hcz115_0
                    try clear hcz115_1
                    try clear hcz120_0
                    try clear hcz120_1
                    try clear hcz121_0
                    try clear hcz121_1
                    try clear hcz122_0
                    try clear hcz122_1
                    try clear hcz126_0
                    try clear hcz126_1
                    try clear hcz137_0
                    try clear hcz137_1
                    try clear hcz142_0
                    try clear hcz142_1
                    try clear hcz147_0
                    try clear hcz147_1
                    try clear hcz148_0
                    try clear hcz148_1
                    try clear hcz149_0
                    try clear hcz149_1
                    try clear hcz153_0
                    try clear hcz153_1
                    try clear hcz18_0
                    try clear hcz18_1
                    try clear hcz22_0
                    try clear hcz22_1
                    try clear hcz24_0
                    try clear hcz24_1
                    try clear hcz30_0
                    try clear hcz30_1
                    try clear hcz34_0
                    try clear hcz34_1
                    try clear hcz36_0
                    try clear hcz36_1
                    try clear hcz38_0
                    try clear hcz38_1
                    try clear hcz43_0
                    try clear hcz43_1
                    try clear hcz47_0
                    try clear hcz47_1
                    try clear hcz52_0
                    try clear hcz52_1
                    try clear hcz62_0
                    try clear hcz62_1
                    try clear hcz65_0
                    try clear hcz65_1
                    try clear hcz76_0
                    try clear hcz76_1
                    try clear hcz81_0
                    try clear hcz81_1
                    try clear hcz86_0
                    try clear hcz86_1
                    try clear hcz89_0
                    try clear hcz89_1
                    try clear hfz110_0
                    try clear hfz110_1
                    try clear hfz115_0
                    try clear hfz115_1
                    try clear hfz120_0
                    try clear hfz120_1
                    try clear hfz121_0
                    try clear hfz121_1
                    try clear hfz122_0
                    try clear hfz122_1
                    try clear hfz126_0
                    try clear hfz126_1
                    try clear hfz137_0
                    try clear hfz137_1
                    try clear hfz142_0
                    try clear hfz142_1
                    try clear hfz147_0
                    try clear hfz147_1
                    try clear hfz148_0
                    try clear hfz148_1
                    try clear hfz149_0
                    try clear hfz149_1
                    try clear hfz153_0
                    try clear hfz153_1
                    try clear hfz18_0
                    try clear hfz18_1
                    try clear hfz22_0
                    try clear hfz22_1
                    try clear hfz24_0
                    try clear hfz24_1
                    try clear hfz30_0
                    try clear hfz30_1
                    try clear hfz34_0
                    try clear hfz34_1
                    try clear hfz36_0
                    try clear hfz36_1
                    try clear hfz38_0
                    try clear hfz38_1
                    try clear hfz43_0
                    try clear hfz43_1
                    try clear hfz47_0
                    try clear hfz47_1
                    try clear hfz52_0
                    try clear hfz52_1
                    try clear hfz62_0
                    try clear hfz62_1
                    try clear hfz65_0
                    try clear hfz65_1
                    try clear hfz76_0
                    try clear hfz76_1
                    try clear hfz81_0
                    try clear hfz81_1
                    try clear hfz86_0
                    try clear hfz86_1
                    try clear hfz89_0
                    try clear hfz89_1
                    obtain ⟨kq, x83_153, rfl, HA, HJ153, BK272, BK273, BK274, BK275, BK284, BK285, HB⟩ := hcut
                    cases kq with
                    | zero => exact absurd HA.out (by simp [impl_RangeCmp.j1])
                    | succ kj153 =>
                      have H := HA.out
                      clear HA
                      simp only [impl_RangeCmp.j1] at H
                      by_cases c156 : x83_153 = true
                      · subst c156
                        have H1 : ((impl_CmpTurn.f kj153 a0).bind fun t300 => ((impl_RangeCmp.f kj153 t300 a2_0 a2_1 a1_0 a1_1).bind fun bt301 => (impl_RangeCmp.j2 kj153 bt301.2.2.1 bt301.2.2.2 bt301.1 bt301.2.1))) = some (r1, r2, r3, r4) := by rw [if_pos rfl] at H; exact H
                        clear H
                        have H := H1
                        clear H1
                        replace H := Option.bind_eq_some_iff.mp H
                        obtain ⟨t300, A1570, H⟩ := H
                        replace H : ((impl_RangeCmp.f kj153 t300 a2_0 a2_1 a1_0 a1_1).bind fun bt301 => (impl_RangeCmp.j2 kj153 bt301.2.2.1 bt301.2.2.2 bt301.1 bt301.2.1)) = some (r1, r2, r3, r4) := H
                        have A157 := Aside0.mk A1570
                        clear A1570
                        replace H := Option.bind_eq_some_iff.mp H
                        obtain ⟨⟨t301, t302, t303, t304⟩, A1580, H⟩ := H
                        replace H : (impl_RangeCmp.j2 kj153 t303 t304 t301 t302) = some (r1, r2, r3, r4) := H
                        have A158 := Aside0.mk A1580
                        clear A1580
                        have H' := Aside0.mk H
                        clear H
                        try go_wp2
                        replace BK272 := Aside0.mk (blk_drew BK272.out)
                        replace BK273 := Aside0.mk (blk_drew BK273.out)
                        replace BK274 := Aside0.mk (blk_drew BK274.out)
                        replace BK275 := Aside0.mk (blk_drew BK275.out)
                        replace BK284 := Aside0.mk (blk_drew BK284.out)
                        replace BK285 := Aside0.mk (blk_drew BK285.out)
                        replace HB := Aside0.mk (below_drew1 HB.out)
                        refine start_ (n := 10) (S := fun w' => w'.cell? ⟨gb273, 0, none⟩ = some (.int .i64 a2_0) ∧ w'.cell? ⟨gb273, 1, none⟩ = some (.int .i64 a2_1) ∧ w'.cell? ⟨gb272, 0, none⟩ = some (.int .i64 a1_0) ∧ w'.cell? ⟨gb272, 1, none⟩ = some (.int .i64 a1_1)) (ds := []) #[false, false, false, false, false, false, false, false, false, false] (by kernel_rfl) rfl rfl ⟨(blk_cell BK273.out 0).trans rfl, (blk_cell BK273.out 1).trans rfl, (blk_cell BK272.out 0).trans rfl, (blk_cell BK272.out 1).trans rfl⟩ (fun hHeld => ?_); refine with_tabW impl_RangeCmp.tab19 impl_RangeCmp.bits19 (fun HT_ HW_ => ?_)
                        generalize wc.drew = w159 at BK272 BK273 BK274 BK275 BK284 BK285 HB hHeld ⊢
                        refine sqp HT_ 0 87 ?_
                        refine sqw HT_ HW_ 2 89 hHeld ?_
                        refine sqw HT_ HW_ 3 90 hHeld ?_
                        refine sqo HT_ 1 88 (fun K hK => ?_)
                        refine sqG Try.func130 #[.int .i64 a0] ?_
                        with_reducible refine (impl_CmpTurn.calls kj153 a0 t300 _ A157.out).mono ?_
                        rintro e w' ⟨rfl, ⟨nd, rfl⟩⟩
                        refine ⟨_, rfl, ?_⟩
                        refine hK.out _ _ sqz (fun hHeld => ?_)
                        clear hK K
                        refine sqnm ?_
                        refine sqo HT_ 4 91 (fun K hK => ?_)
                        refine sqG Try.func43 #[.int .i64 t300, .agg #[.int .i64 a2_0, .int .i64 a2_1], .agg #[.int .i64 a1_0, .int .i64 a1_1]] ?_
                        with_reducible refine (ih kj153 (by have := HJ3.out; have := HJ153.out; omega) t300 a2_0 a2_1 a1_0 a1_1 t301 t302 t303 t304 _ A158.out).mono ?_
                        rintro e w160 ⟨rfl, hb⟩
                        refine ⟨_, rfl, ?_⟩
                        replace BK272 := sqb BK272 hb
                        replace BK273 := sqb BK273 hb
                        replace BK274 := sqb BK274 hb
                        replace BK275 := sqb BK275 hb
                        replace BK284 := sqb BK284 hb
                        replace BK285 := sqb BK285 hb
                        replace HB := sqs HB hb
                        (try clear hb)
                        refine hK.out _ _ sqz (fun hHeld => ?_)
                        clear hK K
                        refine sqnm ?_
                        refine sqp HT_ 5 86 ?_
                        refine sqp HT_ 6 92 ?_
                        refine sqp HT_ 7 93 ?_
                        refine one_ (i := 8) (N := none) #[true, true, true, true, true, true, true, true, true, false] rfl rfl (one_of HT_.out (by kernel_rfl)) (by decide) (fun K hK => ?_)
                        have hs161 : w160.cell? ⟨gb285, 0, none⟩ = some (.int .i64 0) := (blk_cell BK285.out 0).trans rfl
                        have hfs161 := blk_frozen BK285.out 0
                        have hns161_0 := NB272_285.out
                        have hns161_1 := NB273_285.out
                        have hns161_2 := NB274_285.out
                        have hns161_3 := NB275_285.out
                        have hns161_4 := NB284_285.out
                        have hms161_0 := NB285_272.out
                        have hms161_1 := NB285_273.out
                        have hms161_2 := NB285_274.out
                        have hms161_3 := NB285_275.out
                        have hms161_4 := NB285_284.out
                        have hs162 : w160.cell? ⟨gb285, 1, none⟩ = some (.int .i64 0) := (blk_cell BK285.out 1).trans rfl
                        have hfs162 := blk_frozen BK285.out 1
                        have hns162_0 := NB272_285.out
                        have hns162_1 := NB273_285.out
                        have hns162_2 := NB274_285.out
                        have hns162_3 := NB275_285.out
                        have hns162_4 := NB284_285.out
                        have hms162_0 := NB285_272.out
                        have hms162_1 := NB285_273.out
                        have hms162_2 := NB285_274.out
                        have hms162_3 := NB285_275.out
                        have hms162_4 := NB285_284.out
                        refine skip_ (w1 := ?_) (by rfl) rfl ?_ ?_
                        rotate_left
                        · go_simp
                          rfl
                        refine hK.out _ _ ⟨((cell_far (p := ⟨gb285, _, none⟩) NB273_285.out _).trans (((cell_far (p := ⟨gb285, _, none⟩) NB273_285.out _).trans (hHeld.1)))), ((cell_far (p := ⟨gb285, _, none⟩) NB273_285.out _).trans (((cell_far (p := ⟨gb285, _, none⟩) NB273_285.out _).trans (hHeld.2.1)))), ((cell_far (p := ⟨gb285, _, none⟩) NB272_285.out _).trans (((cell_far (p := ⟨gb285, _, none⟩) NB272_285.out _).trans (hHeld.2.2.1)))), ((cell_far (p := ⟨gb285, _, none⟩) NB272_285.out _).trans (((cell_far (p := ⟨gb285, _, none⟩) NB272_285.out _).trans (hHeld.2.2.2))))⟩ (fun hHeld => ?_)
                        clear hK K
                        refine one_ (i := 9) (N := none) #[true, true, true, true, true, true, true, true, true, true] rfl rfl (one_of HT_.out (by kernel_rfl)) (by decide) (fun K hK => ?_)
                        have hs163 : w160.cell? ⟨gb284, 0, none⟩ = some (.int .i64 0) := (blk_cell BK284.out 0).trans rfl
                        have hfs163 := blk_frozen BK284.out 0
                        have hns163_0 := NB272_284.out
                        have hns163_1 := NB273_284.out
                        have hns163_2 := NB274_284.out
                        have hns163_3 := NB275_284.out
                        have hns163_5 := NB285_284.out
                        have hms163_0 := NB284_272.out
                        have hms163_1 := NB284_273.out
                        have hms163_2 := NB284_274.out
                        have hms163_3 := NB284_275.out
                        have hms163_5 := NB284_285.out
                        have hs164 : w160.cell? ⟨gb284, 1, none⟩ = some (.int .i64 0) := (blk_cell BK284.out 1).trans rfl
                        have hfs164 := blk_frozen BK284.out 1
                        have hns164_0 := NB272_284.out
                        have hns164_1 := NB273_284.out
                        have hns164_2 := NB274_284.out
                        have hns164_3 := NB275_284.out
                        have hns164_5 := NB285_284.out
                        have hms164_0 := NB284_272.out
                        have hms164_1 := NB284_273.out
                        have hms164_2 := NB284_274.out
                        have hms164_3 := NB284_275.out
                        have hms164_5 := NB284_285.out
                        refine skip_ (w1 := ?_) (by rfl) rfl ?_ ?_
                        rotate_left
                        · go_simp
                          rfl
                        refine hK.out _ _ ⟨((cell_far (p := ⟨gb284, _, none⟩) NB273_284.out _).trans (((cell_far (p := ⟨gb284, _, none⟩) NB273_284.out _).trans (hHeld.1)))), ((cell_far (p := ⟨gb284, _, none⟩) NB273_284.out _).trans (((cell_far (p := ⟨gb284, _, none⟩) NB273_284.out _).trans (hHeld.2.1)))), ((cell_far (p := ⟨gb284, _, none⟩) NB272_284.out _).trans (((cell_far (p := ⟨gb284, _, none⟩) NB272_284.out _).trans (hHeld.2.2.1)))), ((cell_far (p := ⟨gb284, _, none⟩) NB272_284.out _).trans (((cell_far (p := ⟨gb284, _, none⟩) NB272_284.out _).trans (hHeld.2.2.2))))⟩ (fun hHeld => ?_)
                        clear hK K
                        refine done_ (done_of HT_.out (by kernel_rfl)) ?_
                        try go_wp2
                        go_meet
                        case rel => exact ⟨_, (0), (0), (0), (0), (t303), (t304), (t301), (t302), H', ⟨by have := HJ3.out; have := HJ153.out; first | omega | exact Nat.le_refl _⟩, ⟨by refine sqt ?_; refine blk_far ?_ NB272_284.out _; refine sqt ?_; refine blk_far ?_ NB272_284.out _; refine sqt ?_; refine blk_far ?_ NB272_285.out _; refine sqt ?_; refine blk_far ?_ NB272_285.out _; refine sqt ?_; exact BK272.out⟩, ⟨by refine sqt ?_; refine blk_far ?_ NB273_284.out _; refine sqt ?_; refine blk_far ?_ NB273_284.out _; refine sqt ?_; refine blk_far ?_ NB273_285.out _; refine sqt ?_; refine blk_far ?_ NB273_285.out _; refine sqt ?_; exact BK273.out⟩, ⟨by refine sqt ?_; refine blk_far ?_ NB274_284.out _; refine sqt ?_; refine blk_far ?_ NB274_284.out _; refine sqt ?_; refine blk_far ?_ NB274_285.out _; refine sqt ?_; refine blk_far ?_ NB274_285.out _; refine sqt ?_; exact BK274.out⟩, ⟨by refine sqt ?_; refine blk_far ?_ NB275_284.out _; refine sqt ?_; refine blk_far ?_ NB275_284.out _; refine sqt ?_; refine blk_far ?_ NB275_285.out _; refine sqt ?_; refine blk_far ?_ NB275_285.out _; refine sqt ?_; exact BK275.out⟩, ⟨by refine sqt ?_; refine blk_put (cs := #[.int .i64 t303, .int .i64 0]) ?_ 1 _ rfl; refine sqt ?_; refine blk_put (cs := #[.int .i64 0, .int .i64 0]) ?_ 0 _ rfl; refine sqt ?_; refine blk_far ?_ NB284_285.out _; refine sqt ?_; refine blk_far ?_ NB284_285.out _; refine sqt ?_; exact BK284.out⟩, ⟨by refine sqt ?_; refine blk_far ?_ NB285_284.out _; refine sqt ?_; refine blk_far ?_ NB285_284.out _; refine sqt ?_; refine blk_put (cs := #[.int .i64 t301, .int .i64 0]) ?_ 1 _ rfl; refine sqt ?_; refine blk_put (cs := #[.int .i64 0, .int .i64 0]) ?_ 0 _ rfl; refine sqt ?_; exact BK285.out⟩, sqh HB⟩
                      · replace c156 := Bool.eq_false_iff.mpr c156
                        subst c156
                        have H1 : ((impl_rangeNone.f).bind fun bt305 => ((impl_rangeNone.f).bind fun bt307 => (some (bt305.1, bt305.2, bt307.1, bt307.2)))) = some (r1, r2, r3, r4) := by rw [if_neg (show ¬ (false = true) by decide)] at H; exact H
                        clear H
                        have H := H1
                        clear H1
                        replace H := Option.bind_eq_some_iff.mp H
                        obtain ⟨⟨t305, t306⟩, A1650, H⟩ := H
                        replace H : ((impl_rangeNone.f).bind fun bt307 => (some (t305, t306, bt307.1, bt307.2))) = some (r1, r2, r3, r4) := H
                        have A165 := Aside0.mk A1650
                        clear A1650
                        replace H := Option.bind_eq_some_iff.mp H
                        obtain ⟨⟨t307, t308⟩, A1660, H⟩ := H
                        replace H : (some (t305, t306, t307, t308)) = some (r1, r2, r3, r4) := H
                        have A166 := Aside0.mk A1660
                        clear A1660
                        simp only [Option.some.injEq, Prod.mk.injEq] at H
                        obtain ⟨rfl, rfl, rfl, rfl⟩ := H
                        go_wp2_with (first | ((with_reducible refine gate_callee (f := 126) rfl ?_); refine sqL (some 29) Try.func126 #[] ?_; (with_reducible refine (impl_rangeNone.calls  t305 t306 _ A165.out).mono ?_); rintro e w167 ⟨rfl, hb⟩; refine ⟨_, rfl, ?_⟩; replace BK272 := sqb BK272 hb; replace BK273 := sqb BK273 hb; replace BK274 := sqb BK274 hb; replace BK275 := sqb BK275 hb; replace BK284 := sqb BK284 hb; replace BK285 := sqb BK285 hb; replace HB := sqs HB hb; (try clear hb)) | ((with_reducible refine gate_callee (f := 126) rfl ?_); refine sqL (some 30) Try.func126 #[] ?_; (with_reducible refine (impl_rangeNone.calls  t307 t308 _ A166.out).mono ?_); rintro e w168 ⟨rfl, hb⟩; refine ⟨_, rfl, ?_⟩; replace BK272 := sqb BK272 hb; replace BK273 := sqb BK273 hb; replace BK274 := sqb BK274 hb; replace BK275 := sqb BK275 hb; replace BK284 := sqb BK284 hb; replace BK285 := sqb BK285 hb; replace HB := sqs HB hb; (try clear hb); have hnb169 := NB274_272.out; have hnc169 := NB272_274.out; have hnb170 := NB274_273.out; have hnc170 := NB273_274.out; have hnb171 := NB274_275.out; have hnc171 := NB275_274.out; have hnb172 := NB274_284.out; have hnc172 := NB284_274.out; have hnb173 := NB274_285.out; have hnc173 := NB285_274.out; obtain ⟨hcz174_0, hcz174_1, hfz174_0, hfz174_1⟩ := sqc2 BK274; have hnb175 := NB275_272.out; have hnc175 := NB272_275.out; have hnb176 := NB275_273.out; have hnc176 := NB273_275.out; have hnb177 := NB275_284.out; have hnc177 := NB284_275.out; have hnb178 := NB275_285.out; have hnc178 := NB285_275.out; obtain ⟨hcz179_0, hcz179_1, hfz179_0, hfz179_1⟩ := sqc2 BK275))
                        refine bodyPost_ret (results_cc rfl _ _ gb274 gb275 24 24 #[.int .i64 t305, .int .i64 t306] #[.int .i64 t307, .int .i64 t308] (0, 0) (0, 0) _ _ rfl (by refine sqt ?_; refine blk_far ?_ NB274_275.out _; refine sqt ?_; refine blk_far ?_ NB274_275.out _; refine sqt ?_; refine blk_put (cs := #[.int .i64 t305, .int .i64 0]) ?_ 1 _ rfl; refine sqt ?_; refine blk_put (cs := #[.int .i64 0, .int .i64 0]) ?_ 0 _ rfl; refine sqt ?_; exact BK274.out) Try.underlying24 rfl (by kernel_rfl) rfl (by refine sqt ?_; refine blk_put (cs := #[.int .i64 t307, .int .i64 0]) ?_ 1 _ rfl; refine sqt ?_; refine blk_put (cs := #[.int .i64 0, .int .i64 0]) ?_ 0 _ rfl; refine sqt ?_; refine blk_far ?_ NB275_274.out _; refine sqt ?_; refine blk_far ?_ NB275_274.out _; refine sqt ?_; exact BK275.out) Try.underlying24 rfl (by kernel_rfl)) rfl ?_
                        exact sqe HB
        case rest =>
          clear HC66
          try clear c10
          try clear c12
          try clear c14
          try clear c54
          try clear hcz18_0
          try clear hcz18_1
          try clear hcz22_0
          try clear hcz22_1
          try clear hcz24_0
          try clear hcz24_1
          try clear hcz30_0
          try clear hcz30_1
          try clear hcz34_0
          try clear hcz34_1
          try clear hcz36_0
          try clear hcz36_1
          try clear hcz38_0
          try clear hcz38_1
          try clear hcz43_0
          try clear hcz43_1
          try clear hcz47_0
          try clear hcz47_1
          try clear hcz52_0
          try clear hcz52_1
          try clear hcz62_0
          try clear hcz62_1
          try clear hcz65_0
          try clear hcz65_1
          try clear hfz18_0
          try clear hfz18_1
          try clear hfz22_0
          try clear hfz22_1
          try clear hfz24_0
          try clear hfz24_1
          try clear hfz30_0
          try clear hfz30_1
          try clear hfz34_0
          try clear hfz34_1
          try clear hfz36_0
          try clear hfz36_1
          try clear hfz38_0
          try clear hfz38_1
          try clear hfz43_0
          try clear hfz43_1
          try clear hfz47_0
          try clear hfz47_1
          try clear hfz52_0
          try clear hfz52_1
          try clear hfz62_0
          try clear hfz62_1
          try clear hfz65_0
          try clear hfz65_1
          obtain ⟨kq, x275000_65, x275001_65, x276000_65, x276001_65, x285000_65, x285001_65, x286000_65, x286001_65, HA, HJ65, BK272, BK273, BK274, BK275, BK284, BK285, HB⟩ := hcut
          cases kq with
          | zero => exact absurd HA.out (by simp [impl_RangeCmp.j2])
          | succ kj65 =>
            have H := HA.out
            clear HA
            simp only [impl_RangeCmp.j2] at H
            have HC180 := Aside0.mk H
            clear H
            go_upto_region 20 with (fail)
            go_cut [99] (fun v99 wc => ∃ (kq : Nat) (x99_179 : Bool), v99 = .bool x99_179 ∧ Aside0 (impl_RangeCmp.j3 kq x99_179 x285000_65 x285001_65 x286000_65 x286001_65 = some (r1, r2, r3, r4)) ∧ Aside0 (kq ≤ kj65) ∧ Aside0 (wc.heap[gb272]? = some (.cells #[.int .i64 a1_0, .int .i64 a1_1] 24 (0, 0))) ∧ Aside0 (wc.heap[gb273]? = some (.cells #[.int .i64 a2_0, .int .i64 a2_1] 24 (0, 0))) ∧ Aside0 (wc.heap[gb274]? = some (.cells #[.int .i64 x275000_65, .int .i64 x275001_65] 24 (0, 0))) ∧ Aside0 (wc.heap[gb275]? = some (.cells #[.int .i64 x276000_65, .int .i64 x276001_65] 24 (0, 0))) ∧ Aside0 (wc.heap[gb284]? = some (.cells #[.int .i64 x285000_65, .int .i64 x285001_65] 24 (0, 0))) ∧ Aside0 (wc.heap[gb285]? = some (.cells #[.int .i64 x286000_65, .int .i64 x286001_65] 24 (0, 0))) ∧ Aside0 (Below w.heap.size w wc))
            case first =>
              have H := HC180.out
              clear HC180
              replace H := Option.bind_eq_some_iff.mp H
              obtain ⟨t309, A1810, H⟩ := H
              replace H : (if t309 = true then (impl_RangeCmp.j3 kj65 true x285000_65 x285001_65 x286000_65 x286001_65) else ((impl_Range_empty.f x286000_65 x286001_65).bind fun t310 => (impl_RangeCmp.j3 kj65 t310 x285000_65 x285001_65 x286000_65 x286001_65))) = some (r1, r2, r3, r4) := H
              have A181 := Aside0.mk A1810
              clear A1810
              by_cases c182 : t309 = true
              · subst c182
                have H1 : (impl_RangeCmp.j3 kj65 true x285000_65 x285001_65 x286000_65 x286001_65) = some (r1, r2, r3, r4) := by rw [if_pos rfl] at H; exact H
                clear H
                have H := H1
                clear H1
                have H' := Aside0.mk H
                clear H
                have hnb183 := NB284_272.out
                have hnc183 := NB272_284.out
                have hnb184 := NB284_273.out
                have hnc184 := NB273_284.out
                have hnb185 := NB284_274.out
                have hnc185 := NB274_284.out
                have hnb186 := NB284_275.out
                have hnc186 := NB275_284.out
                have hnb187 := NB284_285.out
                have hnc187 := NB285_284.out
                obtain ⟨hcz188_0, hcz188_1, hfz188_0, hfz188_1⟩ := sqc2 BK284
                go_wp2_with (first | ((with_reducible refine gate_callee (f := 95) rfl ?_); refine sqL (some 95) Try.func95 #[.agg #[.int .i64 x285000_65, .int .i64 x285001_65]] ?_; (with_reducible refine (impl_Range_empty.calls x285000_65 x285001_65 true _ A181.out).mono ?_); rintro e w189 ⟨rfl, hb⟩; refine ⟨_, rfl, ?_⟩; replace BK272 := sqb BK272 hb; replace BK273 := sqb BK273 hb; replace BK274 := sqb BK274 hb; replace BK275 := sqb BK275 hb; replace BK284 := sqb BK284 hb; replace BK285 := sqb BK285 hb; replace HB := sqs HB hb; (try clear hb)))
                go_meet
                case rel => exact ⟨_, (true), (by first | rfl | (simp; done) | (simp [*]; done)), H', ⟨by have := HJ3.out; have := HJ65.out; first | omega | exact Nat.le_refl _⟩, sqk BK272, sqk BK273, sqk BK274, sqk BK275, sqk BK284, sqk BK285, sqh HB⟩
              · replace c182 := Bool.eq_false_iff.mpr c182
                subst c182
                have H1 : ((impl_Range_empty.f x286000_65 x286001_65).bind fun t310 => (impl_RangeCmp.j3 kj65 t310 x285000_65 x285001_65 x286000_65 x286001_65)) = some (r1, r2, r3, r4) := by rw [if_neg (show ¬ (false = true) by decide)] at H; exact H
                clear H
                have H := H1
                clear H1
                replace H := Option.bind_eq_some_iff.mp H
                obtain ⟨t310, A1900, H⟩ := H
                replace H : (impl_RangeCmp.j3 kj65 t310 x285000_65 x285001_65 x286000_65 x286001_65) = some (r1, r2, r3, r4) := H
                have A190 := Aside0.mk A1900
                clear A1900
                have H' := Aside0.mk H
                clear H
                have hnb191 := NB284_272.out
                have hnc191 := NB272_284.out
                have hnb192 := NB284_273.out
                have hnc192 := NB273_284.out
                have hnb193 := NB284_274.out
                have hnc193 := NB274_284.out
                have hnb194 := NB284_275.out
                have hnc194 := NB275_284.out
                have hnb195 := NB284_285.out
                have hnc195 := NB285_284.out
                obtain ⟨hcz196_0, hcz196_1, hfz196_0, hfz196_1⟩ := sqc2 BK284
                go_wp2_with (first | ((with_reducible refine gate_callee (f := 95) rfl ?_); refine sqL (some 95) Try.func95 #[.agg #[.int .i64 x285000_65, .int .i64 x285001_65]] ?_; (with_reducible refine (impl_Range_empty.calls x285000_65 x285001_65 false _ A181.out).mono ?_); rintro e w197 ⟨rfl, hb⟩; refine ⟨_, rfl, ?_⟩; replace BK272 := sqb BK272 hb; replace BK273 := sqb BK273 hb; replace BK274 := sqb BK274 hb; replace BK275 := sqb BK275 hb; replace BK284 := sqb BK284 hb; replace BK285 := sqb BK285 hb; replace HB := sqs HB hb; (try clear hb); have hnb198 := NB285_272.out; have hnc198 := NB272_285.out; have hnb199 := NB285_273.out; have hnc199 := NB273_285.out; have hnb200 := NB285_274.out; have hnc200 := NB274_285.out; have hnb201 := NB285_275.out; have hnc201 := NB275_285.out; obtain ⟨hcz202_0, hcz202_1, hfz202_0, hfz202_1⟩ := sqc2 BK285) | (go_at_call 95; (with_reducible refine (impl_Range_empty.calls x286000_65 x286001_65 t310 _ A190.out).mono ?_); rintro e w203 ⟨rfl, hb⟩; replace BK272 := sqb BK272 hb; replace BK273 := sqb BK273 hb; replace BK274 := sqb BK274 hb; replace BK275 := sqb BK275 hb; replace BK284 := sqb BK284 hb; replace BK285 := sqb BK285 hb; replace HB := sqs HB hb; (try clear hb)))
                go_meet
                case rel => exact ⟨_, (t310), (by first | rfl | (simp; done) | (simp [*]; done)), H', ⟨by have := HJ3.out; have := HJ65.out; first | omega | exact Nat.le_refl _⟩, sqk BK272, sqk BK273, sqk BK274, sqk BK275, sqk BK284, sqk BK285, sqh HB⟩
            case rest =>
              clear HC180
              try clear c10
              try clear c12
              try clear c14
              try clear c54
              try clear c69
              try clear c69b0
              try clear c69b1
              try clear c90
              try clear c90b0
              try clear c90b1
              try clear c100
              try clear c100b0
              try clear c100b1
              try clear c127
              try clear c127b0
              try clear c127b1
              try clear c155
              try clear c155b0
              try clear c155b1
              try clear c156
              try clear hcz110_0
              try clear hcz110_1
              try clear hcz115_0
              try clear hcz115_1
              try clear hcz120_0
              try clear hcz120_1
              try clear hcz121_0
              try clear hcz121_1
              try clear hcz122_0
              try clear hcz122_1
              try clear hcz126_0
              try clear hcz126_1
              try clear hcz137_0
              try clear hcz137_1
              try clear hcz142_0
              try clear hcz142_1
              try clear hcz147_0
              try clear hcz147_1
              try clear hcz148_0
              try clear hcz148_1
              try clear hcz149_0
              try clear hcz149_1
              try clear hcz153_0
              try clear hcz153_1
              try clear hcz174_0
              try clear hcz174_1
              try clear hcz179_0
              try clear hcz179_1
              try clear hcz18_0
              try clear hcz18_1
              try clear hcz22_0
              try clear hcz22_1
              try clear hcz24_0
              try clear hcz24_1
              try clear hcz30_0
              try clear hcz30_1
              try clear hcz34_0
              try clear hcz34_1
              try clear hcz36_0
              try clear hcz36_1
              try clear hcz38_0
              try clear hcz38_1
              try clear hcz43_0
              try clear hcz43_1
              try clear hcz47_0
              try clear hcz47_1
              try clear hcz52_0
              try clear hcz52_1
              try clear hcz62_0
              try clear hcz62_1
              try clear hcz65_0
              try clear hcz65_1
              try clear hcz76_0
              try clear hcz76_1
              try clear hcz81_0
              try clear hcz81_1
              try clear hcz86_0
              try clear hcz86_1
              try clear hcz89_0
              try clear hcz89_1
              try clear hfz110_0
              try clear hfz110_1
              try clear hfz115_0
              try clear hfz115_1
              try clear hfz120_0
              try clear hfz120_1
              try clear hfz121_0
              try clear hfz121_1
              try clear hfz122_0
              try clear hfz122_1
              try clear hfz126_0
              try clear hfz126_1
              try clear hfz137_0
              try clear hfz137_1
              try clear hfz142_0
              try clear hfz142_1
              try clear hfz147_0
              try clear hfz147_1
              try clear hfz148_0
              try clear hfz148_1
              try clear hfz149_0
              try clear hfz149_1
              try clear hfz153_0
              try clear hfz153_1
              try clear hfz174_0
              try clear hfz174_1
              try clear hfz179_0
              try clear hfz179_1
              try clear hfz18_0
              try clear hfz18_1
              try clear hfz22_0
              try clear hfz22_1
              try clear hfz24_0
              try clear hfz24_1
              try clear hfz30_0
              try clear hfz30_1
              try clear hfz34_0
              try clear hfz34_1
              try clear hfz36_0
              try clear hfz36_1
              try clear hfz38_0
              try clear hfz38_1
              try clear hfz43_0
              try clear hfz43_1
              try clear hfz47_0
              try clear hfz47_1
              try clear hfz52_0
              try clear hfz52_1
              try clear hfz62_0
              try clear hfz62_1
              try clear hfz65_0
              try clear hfz65_1
              try clear hfz76_0
              try clear hfz76_1
              try clear hfz81_0
              try clear hfz81_1
              try clear hfz86_0
              try clear hfz86_1
              try clear hfz89_0
              try clear hfz89_1
              obtain ⟨kq, x99_179, rfl, HA, HJ179, BK272, BK273, BK274, BK275, BK284, BK285, HB⟩ := hcut
              cases kq with
              | zero => exact absurd HA.out (by simp [impl_RangeCmp.j3])
              | succ kj179 =>
                have H := HA.out
                clear HA
                simp only [impl_RangeCmp.j3] at H
                by_cases c204 : x99_179 = true
                · subst c204
                  have H1 : ((impl_rangeNone.f).bind fun bt311 => ((impl_rangeNone.f).bind fun bt313 => (some (bt311.1, bt311.2, bt313.1, bt313.2)))) = some (r1, r2, r3, r4) := by rw [if_pos rfl] at H; exact H
                  clear H
                  have H := H1
                  clear H1
                  replace H := Option.bind_eq_some_iff.mp H
                  obtain ⟨⟨t311, t312⟩, A2050, H⟩ := H
                  replace H : ((impl_rangeNone.f).bind fun bt313 => (some (t311, t312, bt313.1, bt313.2))) = some (r1, r2, r3, r4) := H
                  have A205 := Aside0.mk A2050
                  clear A2050
                  replace H := Option.bind_eq_some_iff.mp H
                  obtain ⟨⟨t313, t314⟩, A2060, H⟩ := H
                  replace H : (some (t311, t312, t313, t314)) = some (r1, r2, r3, r4) := H
                  have A206 := Aside0.mk A2060
                  clear A2060
                  simp only [Option.some.injEq, Prod.mk.injEq] at H
                  obtain ⟨rfl, rfl, rfl, rfl⟩ := H
                  go_wp2_with (first | ((with_reducible refine gate_callee (f := 126) rfl ?_); refine sqL (some 100) Try.func126 #[] ?_; (with_reducible refine (impl_rangeNone.calls  t311 t312 _ A205.out).mono ?_); rintro e w207 ⟨rfl, hb⟩; refine ⟨_, rfl, ?_⟩; replace BK272 := sqb BK272 hb; replace BK273 := sqb BK273 hb; replace BK274 := sqb BK274 hb; replace BK275 := sqb BK275 hb; replace BK284 := sqb BK284 hb; replace BK285 := sqb BK285 hb; replace HB := sqs HB hb; (try clear hb)) | ((with_reducible refine gate_callee (f := 126) rfl ?_); refine sqL (some 101) Try.func126 #[] ?_; (with_reducible refine (impl_rangeNone.calls  t313 t314 _ A206.out).mono ?_); rintro e w208 ⟨rfl, hb⟩; refine ⟨_, rfl, ?_⟩; replace BK272 := sqb BK272 hb; replace BK273 := sqb BK273 hb; replace BK274 := sqb BK274 hb; replace BK275 := sqb BK275 hb; replace BK284 := sqb BK284 hb; replace BK285 := sqb BK285 hb; replace HB := sqs HB hb; (try clear hb); have hnb209 := NB274_272.out; have hnc209 := NB272_274.out; have hnb210 := NB274_273.out; have hnc210 := NB273_274.out; have hnb211 := NB274_275.out; have hnc211 := NB275_274.out; have hnb212 := NB274_284.out; have hnc212 := NB284_274.out; have hnb213 := NB274_285.out; have hnc213 := NB285_274.out; obtain ⟨hcz214_0, hcz214_1, hfz214_0, hfz214_1⟩ := sqc2 BK274; have hnb215 := NB275_272.out; have hnc215 := NB272_275.out; have hnb216 := NB275_273.out; have hnc216 := NB273_275.out; have hnb217 := NB275_284.out; have hnc217 := NB284_275.out; have hnb218 := NB275_285.out; have hnc218 := NB285_275.out; obtain ⟨hcz219_0, hcz219_1, hfz219_0, hfz219_1⟩ := sqc2 BK275))
                  refine bodyPost_ret (results_cc rfl _ _ gb274 gb275 24 24 #[.int .i64 t311, .int .i64 t312] #[.int .i64 t313, .int .i64 t314] (0, 0) (0, 0) _ _ rfl (by refine sqt ?_; refine blk_far ?_ NB274_275.out _; refine sqt ?_; refine blk_far ?_ NB274_275.out _; refine sqt ?_; refine blk_put (cs := #[.int .i64 t311, .int .i64 x275001_65]) ?_ 1 _ rfl; refine sqt ?_; refine blk_put (cs := #[.int .i64 x275000_65, .int .i64 x275001_65]) ?_ 0 _ rfl; refine sqt ?_; exact BK274.out) Try.underlying24 rfl (by kernel_rfl) rfl (by refine sqt ?_; refine blk_put (cs := #[.int .i64 t313, .int .i64 x276001_65]) ?_ 1 _ rfl; refine sqt ?_; refine blk_put (cs := #[.int .i64 x276000_65, .int .i64 x276001_65]) ?_ 0 _ rfl; refine sqt ?_; refine blk_far ?_ NB275_274.out _; refine sqt ?_; refine blk_far ?_ NB275_274.out _; refine sqt ?_; exact BK275.out) Try.underlying24 rfl (by kernel_rfl)) rfl ?_
                  exact sqe HB
                · replace c204 := Bool.eq_false_iff.mpr c204
                  subst c204
                  have H1 : (some (x285000_65, x285001_65, x286000_65, x286001_65)) = some (r1, r2, r3, r4) := by rw [if_neg (show ¬ (false = true) by decide)] at H; exact H
                  clear H
                  have H := H1
                  clear H1
                  simp only [Option.some.injEq, Prod.mk.injEq] at H
                  obtain ⟨rfl, rfl, rfl, rfl⟩ := H
                  try go_wp2
                  replace BK272 := Aside0.mk (blk_drew BK272.out)
                  replace BK273 := Aside0.mk (blk_drew BK273.out)
                  replace BK274 := Aside0.mk (blk_drew BK274.out)
                  replace BK275 := Aside0.mk (blk_drew BK275.out)
                  replace BK284 := Aside0.mk (blk_drew BK284.out)
                  replace BK285 := Aside0.mk (blk_drew BK285.out)
                  replace HB := Aside0.mk (below_drew1 HB.out)
                  refine start_ (n := 4) (S := fun w' => w'.cell? ⟨gb284, 0, none⟩ = some (.int .i64 x285000_65) ∧ w'.cell? ⟨gb284, 1, none⟩ = some (.int .i64 x285001_65) ∧ w'.cell? ⟨gb285, 0, none⟩ = some (.int .i64 x286000_65) ∧ w'.cell? ⟨gb285, 1, none⟩ = some (.int .i64 x286001_65)) (ds := []) #[false, false, false, false] (by kernel_rfl) rfl rfl ⟨(blk_cell BK284.out 0).trans rfl, (blk_cell BK284.out 1).trans rfl, (blk_cell BK285.out 0).trans rfl, (blk_cell BK285.out 1).trans rfl⟩ (fun hHeld => ?_)
                  generalize wc.drew = w220 at BK272 BK273 BK274 BK275 BK284 BK285 HB hHeld ⊢
                  refine take_ (i := 0) (N := some 102) (v := ?_) (a' := ?_) #[true, false, false, false] rfl rfl (by kernel_rfl) (fun _ _ _ h => h) (Or.inl ⟨by rfl, ?_⟩) hHeld ?_ ?_
                  rotate_left
                  · rintro w' ⟨s0, s1, s2, s3⟩
                    go_simp
                    with_reducible rfl
                  rotate_left
                  · simp only [Act.put, List.setIfInBounds_toArray, List.set_cons_zero, List.set_cons_succ, i64_w, i32_w]
                    rfl
                  refine take_ (i := 1) (N := some 103) (v := ?_) (a' := ?_) #[true, true, false, false] rfl rfl (by kernel_rfl) (fun _ _ _ h => h) (Or.inl ⟨by rfl, ?_⟩) hHeld ?_ ?_
                  rotate_left
                  · rintro w' ⟨s0, s1, s2, s3⟩
                    go_simp
                    with_reducible rfl
                  rotate_left
                  · simp only [Act.put, List.setIfInBounds_toArray, List.set_cons_zero, List.set_cons_succ, i64_w, i32_w]
                    rfl
                  refine one_ (i := 2) (N := none) #[true, true, true, false] rfl rfl (by kernel_rfl) (by decide) (fun K hK => ?_)
                  have hs221 : w220.cell? ⟨gb274, 0, none⟩ = some (.int .i64 x275000_65) := (blk_cell BK274.out 0).trans rfl
                  have hfs221 := blk_frozen BK274.out 0
                  have hns221_0 := NB272_274.out
                  have hns221_1 := NB273_274.out
                  have hns221_3 := NB275_274.out
                  have hns221_4 := NB284_274.out
                  have hns221_5 := NB285_274.out
                  have hms221_0 := NB274_272.out
                  have hms221_1 := NB274_273.out
                  have hms221_3 := NB274_275.out
                  have hms221_4 := NB274_284.out
                  have hms221_5 := NB274_285.out
                  have hs222 : w220.cell? ⟨gb274, 1, none⟩ = some (.int .i64 x275001_65) := (blk_cell BK274.out 1).trans rfl
                  have hfs222 := blk_frozen BK274.out 1
                  have hns222_0 := NB272_274.out
                  have hns222_1 := NB273_274.out
                  have hns222_3 := NB275_274.out
                  have hns222_4 := NB284_274.out
                  have hns222_5 := NB285_274.out
                  have hms222_0 := NB274_272.out
                  have hms222_1 := NB274_273.out
                  have hms222_3 := NB274_275.out
                  have hms222_4 := NB274_284.out
                  have hms222_5 := NB274_285.out
                  refine skip_ (w1 := ?_) (by rfl) rfl ?_ ?_
                  rotate_left
                  · go_simp
                    rfl
                  refine hK.out _ _ ⟨((cell_far (p := ⟨gb274, _, none⟩) NB284_274.out _).trans (((cell_far (p := ⟨gb274, _, none⟩) NB284_274.out _).trans (hHeld.1)))), ((cell_far (p := ⟨gb274, _, none⟩) NB284_274.out _).trans (((cell_far (p := ⟨gb274, _, none⟩) NB284_274.out _).trans (hHeld.2.1)))), ((cell_far (p := ⟨gb274, _, none⟩) NB285_274.out _).trans (((cell_far (p := ⟨gb274, _, none⟩) NB285_274.out _).trans (hHeld.2.2.1)))), ((cell_far (p := ⟨gb274, _, none⟩) NB285_274.out _).trans (((cell_far (p := ⟨gb274, _, none⟩) NB285_274.out _).trans (hHeld.2.2.2))))⟩ (fun hHeld => ?_)
                  clear hK K
                  refine one_ (i := 3) (N := none) #[true, true, true, true] rfl rfl (by kernel_rfl) (by decide) (fun K hK => ?_)
                  have hs223 : w220.cell? ⟨gb275, 0, none⟩ = some (.int .i64 x276000_65) := (blk_cell BK275.out 0).trans rfl
                  have hfs223 := blk_frozen BK275.out 0
                  have hns223_0 := NB272_275.out
                  have hns223_1 := NB273_275.out
                  have hns223_2 := NB274_275.out
                  have hns223_4 := NB284_275.out
                  have hns223_5 := NB285_275.out
                  have hms223_0 := NB275_272.out
                  have hms223_1 := NB275_273.out
                  have hms223_2 := NB275_274.out
                  have hms223_4 := NB275_284.out
                  have hms223_5 := NB275_285.out
                  have hs224 : w220.cell? ⟨gb275, 1, none⟩ = some (.int .i64 x276001_65) := (blk_cell BK275.out 1).trans rfl
                  have hfs224 := blk_frozen BK275.out 1
                  have hns224_0 := NB272_275.out
                  have hns224_1 := NB273_275.out
                  have hns224_2 := NB274_275.out
                  have hns224_4 := NB284_275.out
                  have hns224_5 := NB285_275.out
                  have hms224_0 := NB275_272.out
                  have hms224_1 := NB275_273.out
                  have hms224_2 := NB275_274.out
                  have hms224_4 := NB275_284.out
                  have hms224_5 := NB275_285.out
                  refine skip_ (w1 := ?_) (by rfl) rfl ?_ ?_
                  rotate_left
                  · go_simp
                    rfl
                  refine hK.out _ _ ⟨((cell_far (p := ⟨gb275, _, none⟩) NB284_275.out _).trans (((cell_far (p := ⟨gb275, _, none⟩) NB284_275.out _).trans (hHeld.1)))), ((cell_far (p := ⟨gb275, _, none⟩) NB284_275.out _).trans (((cell_far (p := ⟨gb275, _, none⟩) NB284_275.out _).trans (hHeld.2.1)))), ((cell_far (p := ⟨gb275, _, none⟩) NB285_275.out _).trans (((cell_far (p := ⟨gb275, _, none⟩) NB285_275.out _).trans (hHeld.2.2.1)))), ((cell_far (p := ⟨gb275, _, none⟩) NB285_275.out _).trans (((cell_far (p := ⟨gb275, _, none⟩) NB285_275.out _).trans (hHeld.2.2.2))))⟩ (fun hHeld => ?_)
                  clear hK K
                  refine done_ (by kernel_rfl) ?_
                  try go_wp2
                  refine bodyPost_ret (results_cc rfl _ _ gb274 gb275 24 24 #[.int .i64 x285000_65, .int .i64 x285001_65] #[.int .i64 x286000_65, .int .i64 x286001_65] (0, 0) (0, 0) _ _ rfl (by refine sqt ?_; refine blk_far ?_ NB274_275.out _; refine sqt ?_; refine blk_far ?_ NB274_275.out _; refine sqt ?_; refine blk_put (cs := #[.int .i64 x285000_65, .int .i64 x275001_65]) ?_ 1 _ rfl; refine sqt ?_; refine blk_put (cs := #[.int .i64 x275000_65, .int .i64 x275001_65]) ?_ 0 _ rfl; refine sqt ?_; exact BK274.out) Try.underlying24 rfl (by kernel_rfl) rfl (by refine sqt ?_; refine blk_put (cs := #[.int .i64 x286000_65, .int .i64 x276001_65]) ?_ 1 _ rfl; refine sqt ?_; refine blk_put (cs := #[.int .i64 x276000_65, .int .i64 x276001_65]) ?_ 0 _ rfl; refine sqt ?_; refine blk_far ?_ NB275_274.out _; refine sqt ?_; refine blk_far ?_ NB275_274.out _; refine sqt ?_; exact BK275.out) Try.underlying24 rfl (by kernel_rfl)) rfl ?_
                  exact sqe HB

end Go.Proofs.Ytkekcenlleebeaa.PFnRangeCmp
