/- Functions of the program as plain Lean functions, and that calls of them come to what these tell. Conditions: those in each law. -/
import Derived.Test.YtkekcenlleebeaaSq
import Derived.Test.YtkekcenlleebeaaDFnRangeCmp
import Derived.Test.YtkekcenlleebeaaQFnRangeCmpx0
import Derived.Test.YtkekcenlleebeaaQFnRangeCmpx1
import Derived.Test.YtkekcenlleebeaaQFnRangeCmpx2
import Derived.Test.YtkekcenlleebeaaQFnRangeCmpx3
import Derived.Test.YtkekcenlleebeaaQFnRangeCmpx5
namespace Go.Proofs.Ytkekcenlleebeaa.PFnRangeCmp
open Go.RowKit Go.Proofs.Ytkekcenlleebeaa.Sq Go.Proofs.YtkekcenlleebeaaW.PrintWords Go.Proofs.YtkekcenlleebeaaW.PrintLast Go.Proofs.YtkekcenlleebeaaW.PrintMore
attribute [local go_sem] max2_int min2_int max_two min_two max_three min_three max_four min_four   -- for this text's walks alone
set_option linter.unusedVariables false
set_option linter.unusedSimpArgs false

attribute [local go_sem high] eqA24
/-! ### spec_RangeMeet: function 131 -/
theorem spec_RangeMeet.mono_l : ∀ k, (∀ y0 y1 y2 y3 y4, LeO (spec_RangeMeet.j0 k y0 y1 y2 y3 y4) (spec_RangeMeet.j0 (k + 1) y0 y1 y2 y3 y4))
  | 0 => fun _ _ _ _ _ r h => by simp [spec_RangeMeet.j0] at h
  | k + 1 => by
    have ih0 := spec_RangeMeet.mono_l k
    · intro y0 y1 y2 y3 y4
      unfold spec_RangeMeet.j0
      repeat' first
      | (with_reducible exact ih0 _ _ _ _ _)
      | (with_reducible exact LeO.refl _)
      | (with_reducible exact LeO.none _)
      | (with_reducible refine LeO.ite ?_ ?_)
      | (with_reducible refine LeO.bind ?_ (fun _ => ?_))
      | exact ih0 _ _ _ _ _
      | exact LeO.none _
      | refine LeO.ite ?_ ?_
      | refine LeO.bind ?_ (fun _ => ?_)
theorem spec_RangeMeet.mono : ∀ a0 a1 a2 a3 k, LeO (spec_RangeMeet.f k a0 a1 a2 a3) (spec_RangeMeet.f (k + 1) a0 a1 a2 a3) := by
  intro a0 a1 a2 a3 k
  have ih0 := spec_RangeMeet.mono_l k
  unfold spec_RangeMeet.f
  repeat' first
      | (with_reducible exact ih0 _ _ _ _ _)
      | (with_reducible exact LeO.refl _)
      | (with_reducible exact LeO.none _)
      | (with_reducible refine LeO.ite ?_ ?_)
      | (with_reducible refine LeO.bind ?_ (fun _ => ?_))
      | exact ih0 _ _ _ _ _
      | exact LeO.none _
      | refine LeO.ite ?_ ?_
      | refine LeO.bind ?_ (fun _ => ?_)
def spec_RangeMeet.T1 : Bool × List (List Nat × List Nat) := (true, [([], []), ([0], [0]), ([1], [1]), ([2, 1], [2]), ([3], [3]), ([4, 3, 3], [3, 4]), ([5, 3], [3, 5]), ([3, 6], [3, 6]), ([7, 5], [7]), ([8], [8]), ([8, 8], [8]), ([9, 10, 8], [8, 9, 10]), ([8, 11], [8, 11]), ([12, 10], [12]), ([13], [13]), ([13, 13], [13]), ([14, 15, 13], [13, 14, 15]), ([13, 16], [13, 16])])
def spec_RangeMeet.B1 : List Nat := [0, 1, 3, 7, 15, 31, 63, 127, 255, 511, 511, 2047, 4095, 8191, 16383, 16383, 65535, 131071]
theorem spec_RangeMeet.tab1 : rtab .any (opsOf Try.f131 1) = spec_RangeMeet.T1 := by kernel_rfl
theorem spec_RangeMeet.bits1 : waitsOk spec_RangeMeet.T1.2 spec_RangeMeet.B1 = true := by kernel_rfl
def spec_RangeMeet.T3 : Bool × List (List Nat × List Nat) := (true, [([], []), ([0], [0]), ([], []), ([2], [2]), ([1, 3], [1, 3]), ([], []), ([5], [5]), ([], []), ([7], [7]), ([6, 8, 4], [6, 8]), ([4, 9, 9], [4, 9]), ([10, 10, 0, 1, 2, 3, 4, 5, 6, 7, 8, 9, 10], [10])])
def spec_RangeMeet.B3 : List Nat := [0, 1, 0, 4, 15, 0, 32, 0, 128, 511, 1023, 2047]
theorem spec_RangeMeet.tab3 : rtab .any (opsOf Try.f131 3) = spec_RangeMeet.T3 := by kernel_rfl
theorem spec_RangeMeet.bits3 : waitsOk spec_RangeMeet.T3.2 spec_RangeMeet.B3 = true := by kernel_rfl
set_option maxHeartbeats 8000000 in
set_option maxRecDepth 100000 in
theorem spec_RangeMeet.calls (k : Nat) (a0_0 : Int) (a0_1 : Int) (a1_0 : Int) (a1_1 : Int) (r1 : Int) (r2 : Int) (w : World) (h : spec_RangeMeet.f k a0_0 a0_1 a1_0 a1_1 = some (r1, r2)) :
    Calls Try.prog 131 #[.agg #[.int .i64 a0_0, .int .i64 a0_1], .agg #[.int .i64 a1_0, .int .i64 a1_1]] w fun e w' => e = .returned (.agg #[.int .i64 r1, .int .i64 r2]) ∧ Below w.heap.size w w' := by
  have hu24 := Try.underlying24
  have HB := Aside0.mk (Below.refl w.heap.size w)
  have H : ((spec_RangeOk.f a0_0 a0_1).bind fun t318 => (if t318 = true then ((spec_RangeOk.f a1_0 a1_1).bind fun t319 => (if t319 = true then ((spec_l8None.f).bind fun bt320 => (if (a0_0 == bt320.1 && (a0_1 == bt320.2)) = true then (spec_RangeMeet.j0 k true a0_0 a0_1 a1_0 a1_1) else ((spec_l8None.f).bind fun bt322 => (spec_RangeMeet.j0 k (a1_0 == bt322.1 && (a1_1 == bt322.2)) a0_0 a0_1 a1_0 a1_1)))) else (spec_RangeMeet.j0 k true a0_0 a0_1 a1_0 a1_1))) else (spec_RangeMeet.j0 k true a0_0 a0_1 a1_0 a1_1))) = some (r1, r2) := h
  clear h
  have HC3 := Aside0.mk H
  clear H
  go_enter Try.func131, Try.ntmps131
  go_upto_region 1 with (first | ((with_reducible refine gate_dst (N := 2) rfl ?_); refine sqx 2 #[.int .i64 a0_0, .int .i64 a0_1] 24 ?_; intro gb315 hg w4 hbox hb; have BK315 := Aside0.mk (hbox); have GW315 := sqg HB hg; have GE315 := sqg HB hg; replace HB := sqs HB hb; clear hb hbox hg) | ((with_reducible refine gate_dst (N := 3) rfl ?_); refine sqx 3 #[.int .i64 a1_0, .int .i64 a1_1] 24 ?_; intro gb316 hg w5 hbox hb; have BK316 := Aside0.mk (hbox); have GW316 := sqg HB hg; have GE316 := sqg HB hg; have NB315_316 := sqn BK315 hg; have NB316_315 := sqm BK315 hg; replace BK315 := sqb BK315 hb; replace HB := sqs HB hb; clear hb hbox hg) | ((with_reducible refine gate_dst (N := 4) rfl ?_); refine sqx 4 #[.int .i64 0, .int .i64 0] 24 ?_; intro gb317 hg w6 hbox hb; have BK317 := Aside0.mk (hbox); have GW317 := sqg HB hg; have GE317 := sqg HB hg; have NB315_317 := sqn BK315 hg; have NB317_315 := sqm BK315 hg; have NB316_317 := sqn BK316 hg; have NB317_316 := sqm BK316 hg; replace BK315 := sqb BK315 hb; replace BK316 := sqb BK316 hb; replace HB := sqs HB hb; clear hb hbox hg))
  (try simp only [Act.put, List.setIfInBounds_toArray, List.set_cons_zero, List.set_cons_succ])
  go_cut [22] (fun v22 wc => ∃ (kq : Nat) (x22_2 : Bool), v22 = .bool x22_2 ∧ Aside0 (spec_RangeMeet.j0 kq x22_2 a0_0 a0_1 a1_0 a1_1 = some (r1, r2)) ∧ Aside0 (kq ≤ k) ∧ Aside0 (wc.heap[gb315]? = some (.cells #[.int .i64 a0_0, .int .i64 a0_1] 24 (0, 0))) ∧ Aside0 (wc.heap[gb316]? = some (.cells #[.int .i64 a1_0, .int .i64 a1_1] 24 (0, 0))) ∧ Aside0 (wc.heap[gb317]? = some (.cells #[.int .i64 0, .int .i64 0] 24 (0, 0))) ∧ Aside0 (Below w.heap.size w wc))
  case first =>
    have H := HC3.out
    clear HC3
    replace H := Option.bind_eq_some_iff.mp H
    obtain ⟨t318, A70, H⟩ := H
    replace H : (if t318 = true then ((spec_RangeOk.f a1_0 a1_1).bind fun t319 => (if t319 = true then ((spec_l8None.f).bind fun bt320 => (if (a0_0 == bt320.1 && (a0_1 == bt320.2)) = true then (spec_RangeMeet.j0 k true a0_0 a0_1 a1_0 a1_1) else ((spec_l8None.f).bind fun bt322 => (spec_RangeMeet.j0 k (a1_0 == bt322.1 && (a1_1 == bt322.2)) a0_0 a0_1 a1_0 a1_1)))) else (spec_RangeMeet.j0 k true a0_0 a0_1 a1_0 a1_1))) else (spec_RangeMeet.j0 k true a0_0 a0_1 a1_0 a1_1)) = some (r1, r2) := H
    have A7 := Aside0.mk A70
    clear A70
    by_cases c8 : t318 = true
    · subst c8
      have H1 : ((spec_RangeOk.f a1_0 a1_1).bind fun t319 => (if t319 = true then ((spec_l8None.f).bind fun bt320 => (if (a0_0 == bt320.1 && (a0_1 == bt320.2)) = true then (spec_RangeMeet.j0 k true a0_0 a0_1 a1_0 a1_1) else ((spec_l8None.f).bind fun bt322 => (spec_RangeMeet.j0 k (a1_0 == bt322.1 && (a1_1 == bt322.2)) a0_0 a0_1 a1_0 a1_1)))) else (spec_RangeMeet.j0 k true a0_0 a0_1 a1_0 a1_1))) = some (r1, r2) := by rw [if_pos rfl] at H; exact H
      clear H
      have H := H1
      clear H1
      replace H := Option.bind_eq_some_iff.mp H
      obtain ⟨t319, A90, H⟩ := H
      replace H : (if t319 = true then ((spec_l8None.f).bind fun bt320 => (if (a0_0 == bt320.1 && (a0_1 == bt320.2)) = true then (spec_RangeMeet.j0 k true a0_0 a0_1 a1_0 a1_1) else ((spec_l8None.f).bind fun bt322 => (spec_RangeMeet.j0 k (a1_0 == bt322.1 && (a1_1 == bt322.2)) a0_0 a0_1 a1_0 a1_1)))) else (spec_RangeMeet.j0 k true a0_0 a0_1 a1_0 a1_1)) = some (r1, r2) := H
      have A9 := Aside0.mk A90
      clear A90
      by_cases c10 : t319 = true
      · subst c10
        have H1 : ((spec_l8None.f).bind fun bt320 => (if (a0_0 == bt320.1 && (a0_1 == bt320.2)) = true then (spec_RangeMeet.j0 k true a0_0 a0_1 a1_0 a1_1) else ((spec_l8None.f).bind fun bt322 => (spec_RangeMeet.j0 k (a1_0 == bt322.1 && (a1_1 == bt322.2)) a0_0 a0_1 a1_0 a1_1)))) = some (r1, r2) := by rw [if_pos rfl] at H; exact H
        clear H
        have H := H1
        clear H1
        replace H := Option.bind_eq_some_iff.mp H
        obtain ⟨⟨t320, t321⟩, A110, H⟩ := H
        replace H : (if (a0_0 == t320 && (a0_1 == t321)) = true then (spec_RangeMeet.j0 k true a0_0 a0_1 a1_0 a1_1) else ((spec_l8None.f).bind fun bt322 => (spec_RangeMeet.j0 k (a1_0 == bt322.1 && (a1_1 == bt322.2)) a0_0 a0_1 a1_0 a1_1))) = some (r1, r2) := H
        have A11 := Aside0.mk A110
        clear A110
        by_cases c12 : (a0_0 == t320 && (a0_1 == t321)) = true
        · rw [if_pos c12] at H
          have c12b0 : (a0_0 == t320 && (a0_1 == t321)) = true := c12
          (try (have c12b1 : decide (a0_0 = t320 && (a0_1 == t321)) = true := by simpa using c12))
          (try (have c12b2 : (a0_0 == t320 && (a0_1 == t321)) = true := by simpa using c12))
          clear c12
          (first | rw [c12b0] | (simp only [i64_w, i32_w]; rw [c12b0]) | skip)
          have H' := Aside0.mk H
          clear H
          try go_wp2
          replace BK315 := Aside0.mk (blk_drew BK315.out)
          replace BK316 := Aside0.mk (blk_drew BK316.out)
          replace BK317 := Aside0.mk (blk_drew BK317.out)
          replace HB := Aside0.mk (below_drew1 HB.out)
          refine start_ (n := 18) (S := fun w' => w'.cell? ⟨gb315, 0, none⟩ = some (.int .i64 a0_0) ∧ w'.cell? ⟨gb315, 1, none⟩ = some (.int .i64 a0_1) ∧ w'.cell? ⟨gb316, 0, none⟩ = some (.int .i64 a1_0) ∧ w'.cell? ⟨gb316, 1, none⟩ = some (.int .i64 a1_1)) (ds := []) #[false, false, false, false, false, false, false, false, false, false, false, false, false, false, false, false, false, false] (by kernel_rfl) rfl rfl ⟨(blk_cell BK315.out 0).trans rfl, (blk_cell BK315.out 1).trans rfl, (blk_cell BK316.out 0).trans rfl, (blk_cell BK316.out 1).trans rfl⟩ (fun hHeld => ?_); refine with_tabW spec_RangeMeet.tab1 spec_RangeMeet.bits1 (fun HT_ HW_ => ?_)
          generalize w6.drew = w13 at BK315 BK316 BK317 HB hHeld ⊢
          refine sqw HT_ HW_ 0 5 hHeld ?_
          refine sqo HT_ 1 6 (fun K hK => ?_)
          refine sqG Try.func45 #[.agg #[.int .i64 a0_0, .int .i64 a0_1]] ?_
          with_reducible refine (spec_RangeOk.calls a0_0 a0_1 true _ A7.out).mono ?_
          rintro e w14 ⟨rfl, hb⟩
          refine ⟨_, rfl, ?_⟩
          replace BK315 := sqb BK315 hb
          replace BK316 := sqb BK316 hb
          replace BK317 := sqb BK317 hb
          replace HB := sqs HB hb
          (try clear hb)
          refine hK.out _ _ sqz (fun hHeld => ?_)
          clear hK K
          refine sqnm ?_
          refine sqp HT_ 2 7 ?_
          refine sqp HT_ 3 8 ?_
          refine sqw HT_ HW_ 4 9 hHeld ?_
          refine sqo HT_ 5 10 (fun K hK => ?_)
          refine sqG Try.func45 #[.agg #[.int .i64 a1_0, .int .i64 a1_1]] ?_
          with_reducible refine (spec_RangeOk.calls a1_0 a1_1 true _ A9.out).mono ?_
          rintro e w15 ⟨rfl, hb⟩
          refine ⟨_, rfl, ?_⟩
          replace BK315 := sqb BK315 hb
          replace BK316 := sqb BK316 hb
          replace BK317 := sqb BK317 hb
          replace HB := sqs HB hb
          (try clear hb)
          refine hK.out _ _ sqz (fun hHeld => ?_)
          clear hK K
          refine sqnm ?_
          refine sqp HT_ 6 11 ?_
          refine sqp HT_ 7 12 ?_
          refine sqp HT_ 8 13 ?_
          refine sqw HT_ HW_ 9 14 hHeld ?_
          refine sqo HT_ 10 15 (fun K hK => ?_)
          refine sqG Try.func99 #[] ?_
          with_reducible refine (spec_l8None.calls  t320 t321 _ A11.out).mono ?_
          rintro e w16 ⟨rfl, hb⟩
          refine ⟨_, rfl, ?_⟩
          replace BK315 := sqb BK315 hb
          replace BK316 := sqb BK316 hb
          replace BK317 := sqb BK317 hb
          replace HB := sqs HB hb
          (try clear hb)
          refine hK.out _ _ sqz (fun hHeld => ?_)
          clear hK K
          refine sqnm ?_
          refine sqp HT_ 11 16 ?_
          refine sqp HT_ 12 17 ?_
          refine sqp HT_ 13 18 ?_
          refine sqpu HT_ 14 19 ?_
          refine sqpu HT_ 15 20 ?_
          refine sqpu HT_ 16 21 ?_
          refine sqp HT_ 17 22 ?_
          refine done_ (done_of HT_.out (by kernel_rfl)) ?_
          try go_wp2
          go_meet
          case rel => exact ⟨_, (true), (by first | rfl | (simp; done) | (simp [*]; done)), H', ⟨by first | omega | exact Nat.le_refl _⟩, sqk BK315, sqk BK316, sqk BK317, sqh HB⟩
        · rw [if_neg c12] at H
          have c12b0 : (a0_0 == t320 && (a0_1 == t321)) = false := by simpa using c12
          (try (have c12b1 : decide (a0_0 = t320 && (a0_1 == t321)) = false := by simpa using c12))
          (try (have c12b2 : (a0_0 == t320 && (a0_1 == t321)) = false := by simpa using c12))
          (try (have c12b3 : ¬ (a0_0 = t320 && (a0_1 == t321)) := by simpa using c12))
          clear c12
          (first | rw [c12b0] | (simp only [i64_w, i32_w]; rw [c12b0]) | skip)
          replace H := Option.bind_eq_some_iff.mp H
          obtain ⟨⟨t322, t323⟩, A170, H⟩ := H
          replace H : (spec_RangeMeet.j0 k (a1_0 == t322 && (a1_1 == t323)) a0_0 a0_1 a1_0 a1_1) = some (r1, r2) := H
          have A17 := Aside0.mk A170
          clear A170
          have H' := Aside0.mk H
          clear H
          try go_wp2
          replace BK315 := Aside0.mk (blk_drew BK315.out)
          replace BK316 := Aside0.mk (blk_drew BK316.out)
          replace BK317 := Aside0.mk (blk_drew BK317.out)
          replace HB := Aside0.mk (below_drew1 HB.out)
          refine start_ (n := 18) (S := fun w' => w'.cell? ⟨gb315, 0, none⟩ = some (.int .i64 a0_0) ∧ w'.cell? ⟨gb315, 1, none⟩ = some (.int .i64 a0_1) ∧ w'.cell? ⟨gb316, 0, none⟩ = some (.int .i64 a1_0) ∧ w'.cell? ⟨gb316, 1, none⟩ = some (.int .i64 a1_1)) (ds := []) #[false, false, false, false, false, false, false, false, false, false, false, false, false, false, false, false, false, false] (by kernel_rfl) rfl rfl ⟨(blk_cell BK315.out 0).trans rfl, (blk_cell BK315.out 1).trans rfl, (blk_cell BK316.out 0).trans rfl, (blk_cell BK316.out 1).trans rfl⟩ (fun hHeld => ?_); refine with_tabW spec_RangeMeet.tab1 spec_RangeMeet.bits1 (fun HT_ HW_ => ?_)
          generalize w6.drew = w18 at BK315 BK316 BK317 HB hHeld ⊢
          refine sqw HT_ HW_ 0 5 hHeld ?_
          refine sqo HT_ 1 6 (fun K hK => ?_)
          refine sqG Try.func45 #[.agg #[.int .i64 a0_0, .int .i64 a0_1]] ?_
          with_reducible refine (spec_RangeOk.calls a0_0 a0_1 true _ A7.out).mono ?_
          rintro e w19 ⟨rfl, hb⟩
          refine ⟨_, rfl, ?_⟩
          replace BK315 := sqb BK315 hb
          replace BK316 := sqb BK316 hb
          replace BK317 := sqb BK317 hb
          replace HB := sqs HB hb
          (try clear hb)
          refine hK.out _ _ sqz (fun hHeld => ?_)
          clear hK K
          refine sqnm ?_
          refine sqp HT_ 2 7 ?_
          refine sqp HT_ 3 8 ?_
          refine sqw HT_ HW_ 4 9 hHeld ?_
          refine sqo HT_ 5 10 (fun K hK => ?_)
          refine sqG Try.func45 #[.agg #[.int .i64 a1_0, .int .i64 a1_1]] ?_
          with_reducible refine (spec_RangeOk.calls a1_0 a1_1 true _ A9.out).mono ?_
          rintro e w20 ⟨rfl, hb⟩
          refine ⟨_, rfl, ?_⟩
          replace BK315 := sqb BK315 hb
          replace BK316 := sqb BK316 hb
          replace BK317 := sqb BK317 hb
          replace HB := sqs HB hb
          (try clear hb)
          refine hK.out _ _ sqz (fun hHeld => ?_)
          clear hK K
          refine sqnm ?_
          refine sqp HT_ 6 11 ?_
          refine sqp HT_ 7 12 ?_
          refine sqp HT_ 8 13 ?_
          refine sqw HT_ HW_ 9 14 hHeld ?_
          refine sqo HT_ 10 15 (fun K hK => ?_)
          refine sqG Try.func99 #[] ?_
          with_reducible refine (spec_l8None.calls  t320 t321 _ A11.out).mono ?_
          rintro e w21 ⟨rfl, hb⟩
          refine ⟨_, rfl, ?_⟩
          replace BK315 := sqb BK315 hb
          replace BK316 := sqb BK316 hb
          replace BK317 := sqb BK317 hb
          replace HB := sqs HB hb
          (try clear hb)
          refine hK.out _ _ sqz (fun hHeld => ?_)
          clear hK K
          refine sqnm ?_
          refine sqp HT_ 11 16 ?_
          refine sqp HT_ 12 17 ?_
          refine sqp HT_ 13 18 ?_
          refine sqw HT_ HW_ 14 19 hHeld ?_
          refine sqo HT_ 15 20 (fun K hK => ?_)
          refine sqG Try.func99 #[] ?_
          with_reducible refine (spec_l8None.calls  t322 t323 _ A17.out).mono ?_
          rintro e w22 ⟨rfl, hb⟩
          refine ⟨_, rfl, ?_⟩
          replace BK315 := sqb BK315 hb
          replace BK316 := sqb BK316 hb
          replace BK317 := sqb BK317 hb
          replace HB := sqs HB hb
          (try clear hb)
          refine hK.out _ _ sqz (fun hHeld => ?_)
          clear hK K
          refine sqnm ?_
          refine sqp HT_ 16 21 ?_
          refine sqp HT_ 17 22 ?_
          refine done_ (done_of HT_.out (by kernel_rfl)) ?_
          try go_wp2
          go_meet
          case rel => exact ⟨_, ((a1_0 == t322 && (a1_1 == t323))), (by first | rfl | (simp; done) | (simp [*]; done)), H', ⟨by first | omega | exact Nat.le_refl _⟩, sqk BK315, sqk BK316, sqk BK317, sqh HB⟩
      · replace c10 := Bool.eq_false_iff.mpr c10
        subst c10
        have H1 : (spec_RangeMeet.j0 k true a0_0 a0_1 a1_0 a1_1) = some (r1, r2) := by rw [if_neg (show ¬ (false = true) by decide)] at H; exact H
        clear H
        have H := H1
        clear H1
        have H' := Aside0.mk H
        clear H
        try go_wp2
        replace BK315 := Aside0.mk (blk_drew BK315.out)
        replace BK316 := Aside0.mk (blk_drew BK316.out)
        replace BK317 := Aside0.mk (blk_drew BK317.out)
        replace HB := Aside0.mk (below_drew1 HB.out)
        refine start_ (n := 18) (S := fun w' => w'.cell? ⟨gb315, 0, none⟩ = some (.int .i64 a0_0) ∧ w'.cell? ⟨gb315, 1, none⟩ = some (.int .i64 a0_1) ∧ w'.cell? ⟨gb316, 0, none⟩ = some (.int .i64 a1_0) ∧ w'.cell? ⟨gb316, 1, none⟩ = some (.int .i64 a1_1)) (ds := []) #[false, false, false, false, false, false, false, false, false, false, false, false, false, false, false, false, false, false] (by kernel_rfl) rfl rfl ⟨(blk_cell BK315.out 0).trans rfl, (blk_cell BK315.out 1).trans rfl, (blk_cell BK316.out 0).trans rfl, (blk_cell BK316.out 1).trans rfl⟩ (fun hHeld => ?_); refine with_tabW spec_RangeMeet.tab1 spec_RangeMeet.bits1 (fun HT_ HW_ => ?_)
        generalize w6.drew = w23 at BK315 BK316 BK317 HB hHeld ⊢
        refine sqw HT_ HW_ 0 5 hHeld ?_
        refine sqo HT_ 1 6 (fun K hK => ?_)
        refine sqG Try.func45 #[.agg #[.int .i64 a0_0, .int .i64 a0_1]] ?_
        with_reducible refine (spec_RangeOk.calls a0_0 a0_1 true _ A7.out).mono ?_
        rintro e w24 ⟨rfl, hb⟩
        refine ⟨_, rfl, ?_⟩
        replace BK315 := sqb BK315 hb
        replace BK316 := sqb BK316 hb
        replace BK317 := sqb BK317 hb
        replace HB := sqs HB hb
        (try clear hb)
        refine hK.out _ _ sqz (fun hHeld => ?_)
        clear hK K
        refine sqnm ?_
        refine sqp HT_ 2 7 ?_
        refine sqp HT_ 3 8 ?_
        refine sqw HT_ HW_ 4 9 hHeld ?_
        refine sqo HT_ 5 10 (fun K hK => ?_)
        refine sqG Try.func45 #[.agg #[.int .i64 a1_0, .int .i64 a1_1]] ?_
        with_reducible refine (spec_RangeOk.calls a1_0 a1_1 false _ A9.out).mono ?_
        rintro e w25 ⟨rfl, hb⟩
        refine ⟨_, rfl, ?_⟩
        replace BK315 := sqb BK315 hb
        replace BK316 := sqb BK316 hb
        replace BK317 := sqb BK317 hb
        replace HB := sqs HB hb
        (try clear hb)
        refine hK.out _ _ sqz (fun hHeld => ?_)
        clear hK K
        refine sqnm ?_
        refine sqp HT_ 6 11 ?_
        refine sqp HT_ 7 12 ?_
        refine sqp HT_ 8 13 ?_
        refine sqpu HT_ 9 14 ?_
        refine sqpu HT_ 10 15 ?_
        refine sqpu HT_ 11 16 ?_
        refine sqp HT_ 12 17 ?_
        refine sqp HT_ 13 18 ?_
        refine sqpu HT_ 14 19 ?_
        refine sqpu HT_ 15 20 ?_
        refine sqpu HT_ 16 21 ?_
        refine sqp HT_ 17 22 ?_
        refine done_ (done_of HT_.out (by kernel_rfl)) ?_
        try go_wp2
        go_meet
        case rel => exact ⟨_, (true), (by first | rfl | (simp; done) | (simp [*]; done)), H', ⟨by first | omega | exact Nat.le_refl _⟩, sqk BK315, sqk BK316, sqk BK317, sqh HB⟩
    · replace c8 := Bool.eq_false_iff.mpr c8
      subst c8
      have H1 : (spec_RangeMeet.j0 k true a0_0 a0_1 a1_0 a1_1) = some (r1, r2) := by rw [if_neg (show ¬ (false = true) by decide)] at H; exact H
      clear H
      have H := H1
      clear H1
      have H' := Aside0.mk H
      clear H
      try go_wp2
      replace BK315 := Aside0.mk (blk_drew BK315.out)
      replace BK316 := Aside0.mk (blk_drew BK316.out)
      replace BK317 := Aside0.mk (blk_drew BK317.out)
      replace HB := Aside0.mk (below_drew1 HB.out)
      refine start_ (n := 18) (S := fun w' => w'.cell? ⟨gb315, 0, none⟩ = some (.int .i64 a0_0) ∧ w'.cell? ⟨gb315, 1, none⟩ = some (.int .i64 a0_1)) (ds := []) #[false, false, false, false, false, false, false, false, false, false, false, false, false, false, false, false, false, false] (by kernel_rfl) rfl rfl ⟨(blk_cell BK315.out 0).trans rfl, (blk_cell BK315.out 1).trans rfl⟩ (fun hHeld => ?_); refine with_tabW spec_RangeMeet.tab1 spec_RangeMeet.bits1 (fun HT_ HW_ => ?_)
      generalize w6.drew = w26 at BK315 BK316 BK317 HB hHeld ⊢
      refine sqw HT_ HW_ 0 5 hHeld ?_
      refine sqo HT_ 1 6 (fun K hK => ?_)
      refine sqG Try.func45 #[.agg #[.int .i64 a0_0, .int .i64 a0_1]] ?_
      with_reducible refine (spec_RangeOk.calls a0_0 a0_1 false _ A7.out).mono ?_
      rintro e w27 ⟨rfl, hb⟩
      refine ⟨_, rfl, ?_⟩
      replace BK315 := sqb BK315 hb
      replace BK316 := sqb BK316 hb
      replace BK317 := sqb BK317 hb
      replace HB := sqs HB hb
      (try clear hb)
      refine hK.out _ _ sqz (fun hHeld => ?_)
      clear hK K
      refine sqnm ?_
      refine sqp HT_ 2 7 ?_
      refine sqp HT_ 3 8 ?_
      refine sqpu HT_ 4 9 ?_
      refine sqpu HT_ 5 10 ?_
      refine sqpu HT_ 6 11 ?_
      refine sqp HT_ 7 12 ?_
      refine sqp HT_ 8 13 ?_
      refine sqpu HT_ 9 14 ?_
      refine sqpu HT_ 10 15 ?_
      refine sqpu HT_ 11 16 ?_
      refine sqp HT_ 12 17 ?_
      refine sqp HT_ 13 18 ?_
      refine sqpu HT_ 14 19 ?_
      refine sqpu HT_ 15 20 ?_
      refine sqpu HT_ 16 21 ?_
      refine sqp HT_ 17 22 ?_
      refine done_ (done_of HT_.out (by kernel_rfl)) ?_
      try go_wp2
      go_meet
      case rel => exact ⟨_, (true), (by first | rfl | (simp; done) | (simp [*]; done)), H', ⟨by first | omega | exact Nat.le_refl _⟩, sqk BK315, sqk BK316, sqk BK317, sqh HB⟩
  case rest =>
    clear HC3
    obtain ⟨kq, x22_2, rfl, HA, HJ2, BK315, BK316, BK317, HB⟩ := hcut
    cases kq with
    | zero => exact absurd HA.out (by simp [spec_RangeMeet.j0])
    | succ kj2 =>
      have H := HA.out
      clear HA
      simp only [spec_RangeMeet.j0] at H
      by_cases c28 : x22_2 = true
      · subst c28
        have H1 : ((spec_l8None.f).bind fun bt324 => (some (bt324.1, bt324.2))) = some (r1, r2) := by rw [if_pos rfl] at H; exact H
        clear H
        have H := H1
        clear H1
        replace H := Option.bind_eq_some_iff.mp H
        obtain ⟨⟨t324, t325⟩, A290, H⟩ := H
        replace H : (some (t324, t325)) = some (r1, r2) := H
        have A29 := Aside0.mk A290
        clear A290
        simp only [Option.some.injEq, Prod.mk.injEq] at H
        obtain ⟨rfl, rfl⟩ := H
        go_wp2_with (first | ((with_reducible refine gate_callee (f := 99) rfl ?_); refine sqL (some 23) Try.func99 #[] ?_; (with_reducible refine (spec_l8None.calls  t324 t325 _ A29.out).mono ?_); rintro e w30 ⟨rfl, hb⟩; refine ⟨_, rfl, ?_⟩; replace BK315 := sqb BK315 hb; replace BK316 := sqb BK316 hb; replace BK317 := sqb BK317 hb; replace HB := sqs HB hb; (try clear hb); have hnb31 := NB317_315.out; have hnc31 := NB315_317.out; have hnb32 := NB317_316.out; have hnc32 := NB316_317.out; obtain ⟨hcz33_0, hcz33_1, hfz33_0, hfz33_1⟩ := sqc2 BK317))
        refine bodyPost_ret (results_cell_row rfl _ _ gb317 24 #[.int .i64 t324, .int .i64 t325] (0, 0) _ rfl (by refine sqt ?_; refine blk_put (cs := #[.int .i64 t324, .int .i64 0]) ?_ 1 _ rfl; refine sqt ?_; refine blk_put (cs := #[.int .i64 0, .int .i64 0]) ?_ 0 _ rfl; refine sqt ?_; exact BK317.out) Try.underlying24 rfl (by kernel_rfl)) rfl ?_
        exact sqe HB
      · replace c28 := Bool.eq_false_iff.mpr c28
        subst c28
        have H1 : ((spec_l8Max.f a0_0 a1_0).bind fun t326 => ((spec_l8Min.f a0_1 a1_1).bind fun t327 => ((spec_l8Cut.f t326 t327).bind fun bt328 => (some (bt328.1, bt328.2))))) = some (r1, r2) := by rw [if_neg (show ¬ (false = true) by decide)] at H; exact H
        clear H
        have H := H1
        clear H1
        replace H := Option.bind_eq_some_iff.mp H
        obtain ⟨t326, A340, H⟩ := H
        replace H : ((spec_l8Min.f a0_1 a1_1).bind fun t327 => ((spec_l8Cut.f t326 t327).bind fun bt328 => (some (bt328.1, bt328.2)))) = some (r1, r2) := H
        have A34 := Aside0.mk A340
        clear A340
        replace H := Option.bind_eq_some_iff.mp H
        obtain ⟨t327, A350, H⟩ := H
        replace H : ((spec_l8Cut.f t326 t327).bind fun bt328 => (some (bt328.1, bt328.2))) = some (r1, r2) := H
        have A35 := Aside0.mk A350
        clear A350
        replace H := Option.bind_eq_some_iff.mp H
        obtain ⟨⟨t328, t329⟩, A360, H⟩ := H
        replace H : (some (t328, t329)) = some (r1, r2) := H
        have A36 := Aside0.mk A360
        clear A360
        simp only [Option.some.injEq, Prod.mk.injEq] at H
        obtain ⟨rfl, rfl⟩ := H
        try go_wp2
        replace BK315 := Aside0.mk (blk_drew BK315.out)
        replace BK316 := Aside0.mk (blk_drew BK316.out)
        replace BK317 := Aside0.mk (blk_drew BK317.out)
        replace HB := Aside0.mk (below_drew1 HB.out)
        refine start_ (n := 12) (S := fun w' => w'.cell? ⟨gb315, 0, none⟩ = some (.int .i64 a0_0) ∧ w'.cell? ⟨gb315, 1, none⟩ = some (.int .i64 a0_1) ∧ w'.cell? ⟨gb316, 0, none⟩ = some (.int .i64 a1_0) ∧ w'.cell? ⟨gb316, 1, none⟩ = some (.int .i64 a1_1)) (ds := []) #[false, false, false, false, false, false, false, false, false, false, false, false] (by kernel_rfl) rfl rfl ⟨(blk_cell BK315.out 0).trans rfl, (blk_cell BK315.out 1).trans rfl, (blk_cell BK316.out 0).trans rfl, (blk_cell BK316.out 1).trans rfl⟩ (fun hHeld => ?_); refine with_tabW spec_RangeMeet.tab3 spec_RangeMeet.bits3 (fun HT_ HW_ => ?_)
        generalize wc.drew = w37 at BK315 BK316 BK317 HB hHeld ⊢
        refine sqp HT_ 0 24 ?_
        refine sqp HT_ 2 26 ?_
        refine sqp HT_ 5 29 ?_
        refine sqp HT_ 7 31 ?_
        refine sqw HT_ HW_ 1 25 hHeld ?_
        refine sqw HT_ HW_ 3 27 hHeld ?_
        refine sqw HT_ HW_ 6 30 hHeld ?_
        refine sqw HT_ HW_ 8 32 hHeld ?_
        refine sqo HT_ 4 28 (fun K hK => ?_)
        refine sqG Try.func122 #[.int .i64 a0_0, .int .i64 a1_0] ?_
        with_reducible refine (spec_l8Max.calls a0_0 a1_0 t326 _ A34.out).mono ?_
        rintro e w' ⟨rfl, ⟨nd, rfl⟩⟩
        refine ⟨_, rfl, ?_⟩
        refine hK.out _ _ sqz (fun hHeld => ?_)
        clear hK K
        refine sqnm ?_
        refine sqo HT_ 9 33 (fun K hK => ?_)
        refine sqG Try.func134 #[.int .i64 a0_1, .int .i64 a1_1] ?_
        with_reducible refine (spec_l8Min.calls a0_1 a1_1 t327 _ A35.out).mono ?_
        rintro e w' ⟨rfl, ⟨nd, rfl⟩⟩
        refine ⟨_, rfl, ?_⟩
        refine hK.out _ _ sqz (fun hHeld => ?_)
        clear hK K
        refine sqnm ?_
        refine sqo HT_ 10 34 (fun K hK => ?_)
        refine sqG Try.func133 #[.int .i64 t326, .int .i64 t327] ?_
        with_reducible refine (spec_l8Cut.calls t326 t327 t328 t329 _ A36.out).mono ?_
        rintro e w38 ⟨rfl, hb⟩
        refine ⟨_, rfl, ?_⟩
        replace BK315 := sqb BK315 hb
        replace BK316 := sqb BK316 hb
        replace BK317 := sqb BK317 hb
        replace HB := sqs HB hb
        (try clear hb)
        refine hK.out _ _ sqz (fun hHeld => ?_)
        clear hK K
        refine sqnm ?_
        refine one_ (i := 11) (N := none) #[true, true, true, true, true, true, true, true, true, true, true, true] rfl rfl (one_of HT_.out (by kernel_rfl)) (by decide) (fun K hK => ?_)
        have hs39 : w38.cell? ⟨gb317, 0, none⟩ = some (.int .i64 0) := (blk_cell BK317.out 0).trans rfl
        have hfs39 := blk_frozen BK317.out 0
        have hns39_0 := NB315_317.out
        have hns39_1 := NB316_317.out
        have hms39_0 := NB317_315.out
        have hms39_1 := NB317_316.out
        have hs40 : w38.cell? ⟨gb317, 1, none⟩ = some (.int .i64 0) := (blk_cell BK317.out 1).trans rfl
        have hfs40 := blk_frozen BK317.out 1
        have hns40_0 := NB315_317.out
        have hns40_1 := NB316_317.out
        have hms40_0 := NB317_315.out
        have hms40_1 := NB317_316.out
        refine skip_ (w1 := ?_) (by rfl) rfl ?_ ?_
        rotate_left
        · go_simp
          rfl
        refine hK.out _ _ ⟨((cell_far (p := ⟨gb317, _, none⟩) NB315_317.out _).trans (((cell_far (p := ⟨gb317, _, none⟩) NB315_317.out _).trans (hHeld.1)))), ((cell_far (p := ⟨gb317, _, none⟩) NB315_317.out _).trans (((cell_far (p := ⟨gb317, _, none⟩) NB315_317.out _).trans (hHeld.2.1)))), ((cell_far (p := ⟨gb317, _, none⟩) NB316_317.out _).trans (((cell_far (p := ⟨gb317, _, none⟩) NB316_317.out _).trans (hHeld.2.2.1)))), ((cell_far (p := ⟨gb317, _, none⟩) NB316_317.out _).trans (((cell_far (p := ⟨gb317, _, none⟩) NB316_317.out _).trans (hHeld.2.2.2))))⟩ (fun hHeld => ?_)
        clear hK K
        refine done_ (done_of HT_.out (by kernel_rfl)) ?_
        try go_wp2
        refine bodyPost_ret (results_cell_row rfl _ _ gb317 24 #[.int .i64 t328, .int .i64 t329] (0, 0) _ rfl (by refine sqt ?_; refine blk_put (cs := #[.int .i64 t328, .int .i64 0]) ?_ 1 _ rfl; refine sqt ?_; refine blk_put (cs := #[.int .i64 0, .int .i64 0]) ?_ 0 _ rfl; refine sqt ?_; exact BK317.out) Try.underlying24 rfl (by kernel_rfl)) rfl ?_
        exact sqe HB

end Go.Proofs.Ytkekcenlleebeaa.PFnRangeCmp
