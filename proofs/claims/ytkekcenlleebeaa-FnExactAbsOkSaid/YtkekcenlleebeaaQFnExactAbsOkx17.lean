/- Functions of the program as plain Lean functions, and that calls of them come to what these tell. Conditions: those in each law. -/
import Derived.Test.YtkekcenlleebeaaSq
import Derived.Test.YtkekcenlleebeaaDFnExactAbsOk
import Derived.Test.YtkekcenlleebeaaQFnExactAbsOkx0
namespace Go.Proofs.Ytkekcenlleebeaa.PFnExactAbsOk
open Go.RowKit Go.Proofs.Ytkekcenlleebeaa.Sq Go.Proofs.YtkekcenlleebeaaW.PrintWords Go.Proofs.YtkekcenlleebeaaW.PrintLast Go.Proofs.YtkekcenlleebeaaW.PrintMore
attribute [local go_sem] max2_int min2_int max_two min_two max_three min_three max_four min_four   -- for this text's walks alone
set_option linter.unusedVariables false
set_option linter.unusedSimpArgs false

/-! ### laws_eqVal: function 203 -/
set_option maxHeartbeats 8000000 in
set_option maxRecDepth 100000 in
theorem laws_eqVal.calls (a0_0 : Int) (a0_1 : Int) (a0_2 : Int) (a0_3 : Int) (a1_0 : Int) (a1_1 : Int) (a1_2 : Int) (a1_3 : Int) (r : Bool) (w : World) (h : laws_eqVal.f a0_0 a0_1 a0_2 a0_3 a1_0 a1_1 a1_2 a1_3 = some r) :
  Calls Try.prog 203 #[.agg #[.int .i64 a0_0, .int .i64 a0_1, .int .i64 a0_2, .int .i64 a0_3], .agg #[.int .i64 a1_0, .int .i64 a1_1, .int .i64 a1_2, .int .i64 a1_3]] w fun e w' => e = .returned (.bool r) ∧ Below w.heap.size w w' := by
 have hu30 := Try.underlying30
 have HB := Aside0.mk (Below.refl w.heap.size w)
 have H : (if a0_0 = a1_0 then (if a0_1 = a1_1 then (if a0_2 = a1_2 then (if a0_3 = a1_3 then (some true) else (some false)) else (some false)) else (some false)) else (some false)) = some r := h
 clear h
 by_cases c3 : a0_0 = a1_0
 ·rw [if_pos c3] at H
  have c3b0 : (a0_0 == a1_0) = true := beq_iff_eq.mpr c3
  have c3b1 : (a0_0 != a1_0) = false := bne_eq_false_iff_eq.mpr c3
  clear c3
  by_cases c4 : a0_1 = a1_1
  ·rw [if_pos c4] at H
   have c4b0 : (a0_1 == a1_1) = true := beq_iff_eq.mpr c4
   have c4b1 : (a0_1 != a1_1) = false := bne_eq_false_iff_eq.mpr c4
   clear c4
   by_cases c5 : a0_2 = a1_2
   ·rw [if_pos c5] at H
    have c5b0 : (a0_2 == a1_2) = true := beq_iff_eq.mpr c5
    have c5b1 : (a0_2 != a1_2) = false := bne_eq_false_iff_eq.mpr c5
    clear c5
    by_cases c6 : a0_3 = a1_3
    ·rw [if_pos c6] at H
     have c6b0 : (a0_3 == a1_3) = true := beq_iff_eq.mpr c6
     have c6b1 : (a0_3 != a1_3) = false := bne_eq_false_iff_eq.mpr c6
     clear c6
     obtain rfl := Option.some.inj H
     go_enter Try.func203, Try.ntmps203
     go_wp2_with (first | ((with_reducible refine gate_dst (N := 2) rfl ?_); refine sqx 2 #[.int .i64 a0_0, .int .i64 a0_1, .int .i64 a0_2, .int .i64 a0_3] 30 ?_; intro gb353 hg w7 hbox hb; have BK353 := Aside0.mk (hbox); have GW353 := sqg HB hg; have GE353 := sqg HB hg; replace HB := sqs HB hb; clear hb hbox hg) | ((with_reducible refine gate_dst (N := 3) rfl ?_); refine sqx 3 #[.int .i64 a1_0, .int .i64 a1_1, .int .i64 a1_2, .int .i64 a1_3] 30 ?_; intro gb354 hg w8 hbox hb; have BK354 := Aside0.mk (hbox); have GW354 := sqg HB hg; have GE354 := sqg HB hg; have NB353_354 := sqn BK353 hg; have NB354_353 := sqm BK353 hg; replace BK353 := sqb BK353 hb; replace HB := sqs HB hb; clear hb hbox hg; have hnb9 := NB353_354.out; have hnc9 := NB354_353.out; obtain ⟨hcz10_0, hcz10_1, hcz10_2, hcz10_3, hfz10_0, hfz10_1, hfz10_2, hfz10_3⟩ := sqc4 BK353; obtain ⟨hcz11_0, hcz11_1, hcz11_2, hcz11_3, hfz11_0, hfz11_1, hfz11_2, hfz11_3⟩ := sqc4 BK354))
     go_ret
     exact sqe HB
    ·rw [if_neg c6] at H
     have c6b0 : (a0_3 == a1_3) = false := beq_eq_false_iff_ne.mpr c6
     have c6b1 : (a0_3 != a1_3) = true := bne_iff_ne.mpr c6
     obtain rfl := Option.some.inj H
     go_enter Try.func203, Try.ntmps203
     go_wp2_with (first | ((with_reducible refine gate_dst (N := 2) rfl ?_); refine sqx 2 #[.int .i64 a0_0, .int .i64 a0_1, .int .i64 a0_2, .int .i64 a0_3] 30 ?_; intro gb353 hg w12 hbox hb; have BK353 := Aside0.mk (hbox); have GW353 := sqg HB hg; have GE353 := sqg HB hg; replace HB := sqs HB hb; clear hb hbox hg) | ((with_reducible refine gate_dst (N := 3) rfl ?_); refine sqx 3 #[.int .i64 a1_0, .int .i64 a1_1, .int .i64 a1_2, .int .i64 a1_3] 30 ?_; intro gb354 hg w13 hbox hb; have BK354 := Aside0.mk (hbox); have GW354 := sqg HB hg; have GE354 := sqg HB hg; have NB353_354 := sqn BK353 hg; have NB354_353 := sqm BK353 hg; replace BK353 := sqb BK353 hb; replace HB := sqs HB hb; clear hb hbox hg; have hnb14 := NB353_354.out; have hnc14 := NB354_353.out; obtain ⟨hcz15_0, hcz15_1, hcz15_2, hcz15_3, hfz15_0, hfz15_1, hfz15_2, hfz15_3⟩ := sqc4 BK353; obtain ⟨hcz16_0, hcz16_1, hcz16_2, hcz16_3, hfz16_0, hfz16_1, hfz16_2, hfz16_3⟩ := sqc4 BK354))
     go_ret
     exact sqe HB
   ·rw [if_neg c5] at H
    have c5b0 : (a0_2 == a1_2) = false := beq_eq_false_iff_ne.mpr c5
    have c5b1 : (a0_2 != a1_2) = true := bne_iff_ne.mpr c5
    obtain rfl := Option.some.inj H
    go_enter Try.func203, Try.ntmps203
    go_wp2_with (first | ((with_reducible refine gate_dst (N := 2) rfl ?_); refine sqx 2 #[.int .i64 a0_0, .int .i64 a0_1, .int .i64 a0_2, .int .i64 a0_3] 30 ?_; intro gb353 hg w17 hbox hb; have BK353 := Aside0.mk (hbox); have GW353 := sqg HB hg; have GE353 := sqg HB hg; replace HB := sqs HB hb; clear hb hbox hg) | ((with_reducible refine gate_dst (N := 3) rfl ?_); refine sqx 3 #[.int .i64 a1_0, .int .i64 a1_1, .int .i64 a1_2, .int .i64 a1_3] 30 ?_; intro gb354 hg w18 hbox hb; have BK354 := Aside0.mk (hbox); have GW354 := sqg HB hg; have GE354 := sqg HB hg; have NB353_354 := sqn BK353 hg; have NB354_353 := sqm BK353 hg; replace BK353 := sqb BK353 hb; replace HB := sqs HB hb; clear hb hbox hg; have hnb19 := NB353_354.out; have hnc19 := NB354_353.out; obtain ⟨hcz20_0, hcz20_1, hcz20_2, hcz20_3, hfz20_0, hfz20_1, hfz20_2, hfz20_3⟩ := sqc4 BK353; obtain ⟨hcz21_0, hcz21_1, hcz21_2, hcz21_3, hfz21_0, hfz21_1, hfz21_2, hfz21_3⟩ := sqc4 BK354))
    go_ret
    exact sqe HB
  ·rw [if_neg c4] at H
   have c4b0 : (a0_1 == a1_1) = false := beq_eq_false_iff_ne.mpr c4
   have c4b1 : (a0_1 != a1_1) = true := bne_iff_ne.mpr c4
   obtain rfl := Option.some.inj H
   go_enter Try.func203, Try.ntmps203
   go_wp2_with (first | ((with_reducible refine gate_dst (N := 2) rfl ?_); refine sqx 2 #[.int .i64 a0_0, .int .i64 a0_1, .int .i64 a0_2, .int .i64 a0_3] 30 ?_; intro gb353 hg w22 hbox hb; have BK353 := Aside0.mk (hbox); have GW353 := sqg HB hg; have GE353 := sqg HB hg; replace HB := sqs HB hb; clear hb hbox hg) | ((with_reducible refine gate_dst (N := 3) rfl ?_); refine sqx 3 #[.int .i64 a1_0, .int .i64 a1_1, .int .i64 a1_2, .int .i64 a1_3] 30 ?_; intro gb354 hg w23 hbox hb; have BK354 := Aside0.mk (hbox); have GW354 := sqg HB hg; have GE354 := sqg HB hg; have NB353_354 := sqn BK353 hg; have NB354_353 := sqm BK353 hg; replace BK353 := sqb BK353 hb; replace HB := sqs HB hb; clear hb hbox hg; have hnb24 := NB353_354.out; have hnc24 := NB354_353.out; obtain ⟨hcz25_0, hcz25_1, hcz25_2, hcz25_3, hfz25_0, hfz25_1, hfz25_2, hfz25_3⟩ := sqc4 BK353; obtain ⟨hcz26_0, hcz26_1, hcz26_2, hcz26_3, hfz26_0, hfz26_1, hfz26_2, hfz26_3⟩ := sqc4 BK354))
   go_ret
   exact sqe HB
 ·rw [if_neg c3] at H
  have c3b0 : (a0_0 == a1_0) = false := beq_eq_false_iff_ne.mpr c3
  have c3b1 : (a0_0 != a1_0) = true := bne_iff_ne.mpr c3
  obtain rfl := Option.some.inj H
  go_enter Try.func203, Try.ntmps203
  go_wp2_with (first | ((with_reducible refine gate_dst (N := 2) rfl ?_); refine sqx 2 #[.int .i64 a0_0, .int .i64 a0_1, .int .i64 a0_2, .int .i64 a0_3] 30 ?_; intro gb353 hg w27 hbox hb; have BK353 := Aside0.mk (hbox); have GW353 := sqg HB hg; have GE353 := sqg HB hg; replace HB := sqs HB hb; clear hb hbox hg) | ((with_reducible refine gate_dst (N := 3) rfl ?_); refine sqx 3 #[.int .i64 a1_0, .int .i64 a1_1, .int .i64 a1_2, .int .i64 a1_3] 30 ?_; intro gb354 hg w28 hbox hb; have BK354 := Aside0.mk (hbox); have GW354 := sqg HB hg; have GE354 := sqg HB hg; have NB353_354 := sqn BK353 hg; have NB354_353 := sqm BK353 hg; replace BK353 := sqb BK353 hb; replace HB := sqs HB hb; clear hb hbox hg; have hnb29 := NB353_354.out; have hnc29 := NB354_353.out; obtain ⟨hcz30_0, hcz30_1, hcz30_2, hcz30_3, hfz30_0, hfz30_1, hfz30_2, hfz30_3⟩ := sqc4 BK353; obtain ⟨hcz31_0, hcz31_1, hcz31_2, hcz31_3, hfz31_0, hfz31_1, hfz31_2, hfz31_3⟩ := sqc4 BK354))
  go_ret
  exact sqe HB

/-! ### laws_eqValS: function 146 -/
theorem laws_eqValS.mono_l : ∀ k, (∀ y0 y1 y2, LeO (laws_eqValS.l0 k y0 y1 y2) (laws_eqValS.l0 (k + 1) y0 y1 y2))
 | 0 => fun _ _ _ r h => by simp [laws_eqValS.l0] at h
 | k + 1 => by
  have ih0 := laws_eqValS.mono_l k
  ·intro y0 y1 y2
   unfold laws_eqValS.l0
   repeat' first
   | (with_reducible exact ih0 _ _ _)
   | (with_reducible exact LeO.refl _)
   | (with_reducible exact LeO.none _)
   | (with_reducible refine LeO.ite ?_ ?_)
   | (with_reducible refine LeO.bind ?_ (fun _ => ?_))
   | exact ih0 _ _ _
   | exact LeO.none _
   | refine LeO.ite ?_ ?_
   | refine LeO.bind ?_ (fun _ => ?_)
theorem laws_eqValS.mono : ∀ a0 a1 k, LeO (laws_eqValS.f k a0 a1) (laws_eqValS.f (k + 1) a0 a1) := by
 intro a0 a1 k
 have ih0 := laws_eqValS.mono_l k
 unfold laws_eqValS.f
 repeat' first
   | (with_reducible exact ih0 _ _ _)
   | (with_reducible exact LeO.refl _)
   | (with_reducible exact LeO.none _)
   | (with_reducible refine LeO.ite ?_ ?_)
   | (with_reducible refine LeO.bind ?_ (fun _ => ?_))
   | exact ih0 _ _ _
   | exact LeO.none _
   | refine LeO.ite ?_ ?_
   | refine LeO.bind ?_ (fun _ => ?_)
def laws_eqValS.T6 : Bool × List (List Nat × List Nat) := (true, [([], []), ([], []), ([0, 1], [0, 1]), ([2], [2]), ([], []), ([], []), ([4, 5], [4, 5]), ([6], [6]), ([3, 7], [3, 7]), ([8], [8])])
def laws_eqValS.B6 : List Nat := [0, 0, 3, 7, 0, 0, 48, 112, 255, 511]
theorem laws_eqValS.tab6 : rtab .any (opsOf Try.f146 6) = laws_eqValS.T6 := by kernel_rfl
theorem laws_eqValS.bits6 : waitsOk laws_eqValS.T6.2 laws_eqValS.B6 = true := by kernel_rfl
set_option maxHeartbeats 8000000 in
set_option maxRecDepth 100000 in
theorem laws_eqValS.calls (k : Nat) (A0 : Option Addr) (c0 : Nat) (l0 : List (S30)) (A1 : Option Addr) (c1 : Nat) (l1 : List (S30)) (r : Bool) (w : World) (hr0 : Kd.C k30 w A0 l0.length l0) (hc0 : l0.length ≤ c0) (hr1 : Kd.C k30 w A1 l1.length l1) (hc1 : l1.length ≤ c1) (h : laws_eqValS.f k l0 l1 = some r) :
  Calls Try.prog 146 #[.slice A0 l0.length c0, .slice A1 l1.length c1] w fun e w' => e = .returned (.bool r) ∧ Below w.heap.size w w' := by
 have hu30 := Try.underlying30
 have HR0 := Aside0.mk hr0
 have HC0 := Aside0.mk hc0
 clear hr0 hc0
 have HR1 := Aside0.mk hr1
 have HC1 := Aside0.mk hc1
 clear hr1 hc1
 have HB := Aside0.mk (Below.refl w.heap.size w)
 have H : (if (l0.length : Int) = (l1.length : Int) then (laws_eqValS.l0 k l0 l1 0) else (some false)) = some r := h
 clear h
 by_cases c3 : (l0.length : Int) = (l1.length : Int)
 ·rw [if_pos c3] at H
  have c3b0 : ((l0.length : Int) == (l1.length : Int)) = true := beq_iff_eq.mpr c3
  have c3b1 : ((l0.length : Int) != (l1.length : Int)) = false := bne_eq_false_iff_eq.mpr c3
  have c3b2 : (l0.length == l1.length) = true := by first | simpa using c3 | (simp at c3 ⊢; omega)
  clear c3
  have H' := Aside0.mk H
  clear H
  go_enter Try.func146, Try.ntmps146
  go_wp2
  go_loopg [5] k (fun kq v5 w' => ∃ (x5_1 : Int), v5 = .int .i64 x5_1 ∧ Aside0 (laws_eqValS.l0 kq l0 l1 x5_1 = some r) ∧ Aside0 (kq ≤ k) ∧ Aside0 (Below w.heap.size w w'))
  case atStart => exact ⟨(0), (by first | rfl | (simp; done) | (simp [*]; done)), H', ⟨Nat.le_refl _⟩, sqh HB⟩
  case round =>
   clear H'
   try clear c1
   try clear p2
   try clear c3
   try clear c3b0
   try clear c3b1
   try clear c3b2
   obtain ⟨x5_1, rfl, HA, HK1, HB⟩ := hrel
   cases gk with
   | zero => exact absurd HA.out (by simp [laws_eqValS.l0])
   | succ k1 =>
    have H := HA.out
    clear HA
    simp only [laws_eqValS.l0] at H
    by_cases c4 : x5_1 < (l0.length : Int)
    ·rw [if_pos c4] at H
     have c4b0 : decide (x5_1 < (l0.length : Int)) = true := decide_eq_true c4
     clear c4
     by_cases c5 : 0 ≤ x5_1
     ·rw [if_pos c5] at H
      have c5b0 : decide (0 ≤ x5_1) = true := decide_eq_true c5
      clear c5
      by_cases c6 : x5_1 < (l1.length : Int)
      ·rw [if_pos c6] at H
       have c6b0 : decide (x5_1 < (l1.length : Int)) = true := decide_eq_true c6
       clear c6
       replace H := Option.bind_eq_some_iff.mp H
       obtain ⟨t357, A70, H⟩ := H
       replace H : (if t357 = true then (laws_eqValS.l0 k1 l0 l1 (wrap64 (x5_1 + 1))) else (some false)) = some r := H
       have A7 := Aside0.mk A70
       clear A70
       by_cases c8 : t357 = true
       ·subst c8
        have H1 : (laws_eqValS.l0 k1 l0 l1 (wrap64 (x5_1 + 1))) = some r := by rw [if_pos rfl] at H; exact H
        clear H
        have H := H1
        clear H1
        have H' := Aside0.mk H
        clear H
        try go_wp2
        replace HB := Aside0.mk (below_drew1 HB.out)
        have p355 : 0 ≤ (x5_1 : Int) := of_decide_eq_true (by first | (with_reducible assumption) | assumption)
        have q355 : x5_1 < (l0.length : Int) := of_decide_eq_true (by first | (with_reducible assumption) | assumption)
        obtain ⟨ad355, e355, hx355_0, hx355_1, hx355_2, hx355_3⟩ := at_T30 HR0.out x5_1 p355 q355
        have hw355_3 := hx355_3
        have hw355_2 := hx355_2
        have hw355_1 := hx355_1
        have hw355_0 := hx355_0
        cases e355
        replace hx355_0 := (HB.out.cell (World.block_lt_of_cell? w _ hx355_0)).trans hx355_0
        replace hx355_1 := (HB.out.cell (World.block_lt_of_cell? w _ hx355_1)).trans hx355_1
        replace hx355_2 := (HB.out.cell (World.block_lt_of_cell? w _ hx355_2)).trans hx355_2
        replace hx355_3 := (HB.out.cell (World.block_lt_of_cell? w _ hx355_3)).trans hx355_3
        replace p355 := eq_true p355
        replace q355 := eq_true q355
        have p356 : 0 ≤ (x5_1 : Int) := of_decide_eq_true (by first | (with_reducible assumption) | assumption)
        have q356 : x5_1 < (l1.length : Int) := of_decide_eq_true (by first | (with_reducible assumption) | assumption)
        obtain ⟨ad356, e356, hx356_0, hx356_1, hx356_2, hx356_3⟩ := at_T30 HR1.out x5_1 p356 q356
        have hw356_3 := hx356_3
        have hw356_2 := hx356_2
        have hw356_1 := hx356_1
        have hw356_0 := hx356_0
        cases e356
        replace hx356_0 := (HB.out.cell (World.block_lt_of_cell? w _ hx356_0)).trans hx356_0
        replace hx356_1 := (HB.out.cell (World.block_lt_of_cell? w _ hx356_1)).trans hx356_1
        replace hx356_2 := (HB.out.cell (World.block_lt_of_cell? w _ hx356_2)).trans hx356_2
        replace hx356_3 := (HB.out.cell (World.block_lt_of_cell? w _ hx356_3)).trans hx356_3
        replace p356 := eq_true p356
        replace q356 := eq_true q356
        refine start_ (n := 10) (S := fun w' => w'.cell? (ad355.add ((x5_1).toNat * 4)) = some (.int .i64 ((rd_T30 l0 x5_1).f0)) ∧ w'.cell? ⟨(ad355.add ((x5_1).toNat * 4)).block, (ad355.add ((x5_1).toNat * 4)).off + 1, none⟩ = some (.int .i64 ((rd_T30 l0 x5_1).f1)) ∧ w'.cell? ⟨(ad355.add ((x5_1).toNat * 4)).block, (ad355.add ((x5_1).toNat * 4)).off + 2, none⟩ = some (.int .i64 ((rd_T30 l0 x5_1).f2)) ∧ w'.cell? ⟨(ad355.add ((x5_1).toNat * 4)).block, (ad355.add ((x5_1).toNat * 4)).off + 3, none⟩ = some (.int .i64 ((rd_T30 l0 x5_1).f3)) ∧ w'.cell? (ad356.add ((x5_1).toNat * 4)) = some (.int .i64 ((rd_T30 l1 x5_1).f0)) ∧ w'.cell? ⟨(ad356.add ((x5_1).toNat * 4)).block, (ad356.add ((x5_1).toNat * 4)).off + 1, none⟩ = some (.int .i64 ((rd_T30 l1 x5_1).f1)) ∧ w'.cell? ⟨(ad356.add ((x5_1).toNat * 4)).block, (ad356.add ((x5_1).toNat * 4)).off + 2, none⟩ = some (.int .i64 ((rd_T30 l1 x5_1).f2)) ∧ w'.cell? ⟨(ad356.add ((x5_1).toNat * 4)).block, (ad356.add ((x5_1).toNat * 4)).off + 3, none⟩ = some (.int .i64 ((rd_T30 l1 x5_1).f3))) (ds := []) #[false, false, false, false, false, false, false, false, false, false] (by kernel_rfl) rfl rfl ⟨((HB.out.cell (World.block_lt_of_cell? w _ hw355_0)).trans hw355_0), ((HB.out.cell (World.block_lt_of_cell? w _ hw355_1)).trans hw355_1), ((HB.out.cell (World.block_lt_of_cell? w _ hw355_2)).trans hw355_2), ((HB.out.cell (World.block_lt_of_cell? w _ hw355_3)).trans hw355_3), ((HB.out.cell (World.block_lt_of_cell? w _ hw356_0)).trans hw356_0), ((HB.out.cell (World.block_lt_of_cell? w _ hw356_1)).trans hw356_1), ((HB.out.cell (World.block_lt_of_cell? w _ hw356_2)).trans hw356_2), ((HB.out.cell (World.block_lt_of_cell? w _ hw356_3)).trans hw356_3)⟩ (fun hHeld => ?_); refine with_tabW laws_eqValS.tab6 laws_eqValS.bits6 (fun HT_ HW_ => ?_)
        generalize wr.drew = w9 at HB hx355_0 hx355_1 hx355_2 hx355_3 hx356_0 hx356_1 hx356_2 hx356_3 hHeld ⊢
        refine sqp HT_ 0 17 ?_
        refine sqp HT_ 1 18 ?_
        refine sqp HT_ 2 19 ?_
        refine sqp HT_ 4 21 ?_
        refine sqp HT_ 5 22 ?_
        refine sqp HT_ 6 23 ?_
        refine sqw HT_ HW_ 3 20 hHeld ?_
        refine sqw HT_ HW_ 7 24 hHeld ?_
        refine sqo HT_ 8 25 (fun K hK => ?_)
        refine sqG Try.func203 #[.agg #[.int .i64 ((rd_T30 l0 x5_1).f0), .int .i64 ((rd_T30 l0 x5_1).f1), .int .i64 ((rd_T30 l0 x5_1).f2), .int .i64 ((rd_T30 l0 x5_1).f3)], .agg #[.int .i64 ((rd_T30 l1 x5_1).f0), .int .i64 ((rd_T30 l1 x5_1).f1), .int .i64 ((rd_T30 l1 x5_1).f2), .int .i64 ((rd_T30 l1 x5_1).f3)]] ?_
        with_reducible refine (laws_eqVal.calls ((rd_T30 l0 x5_1).f0) ((rd_T30 l0 x5_1).f1) ((rd_T30 l0 x5_1).f2) ((rd_T30 l0 x5_1).f3) ((rd_T30 l1 x5_1).f0) ((rd_T30 l1 x5_1).f1) ((rd_T30 l1 x5_1).f2) ((rd_T30 l1 x5_1).f3) true _ A7.out).mono ?_
        rintro e w10 ⟨rfl, hb⟩
        refine ⟨_, rfl, ?_⟩
        replace HB := sqs HB hb
        (try clear hb)
        refine hK.out _ _ ⟨((HB.out.cell (World.block_lt_of_cell? w _ hw355_0)).trans hw355_0), ((HB.out.cell (World.block_lt_of_cell? w _ hw355_1)).trans hw355_1), ((HB.out.cell (World.block_lt_of_cell? w _ hw355_2)).trans hw355_2), ((HB.out.cell (World.block_lt_of_cell? w _ hw355_3)).trans hw355_3), ((HB.out.cell (World.block_lt_of_cell? w _ hw356_0)).trans hw356_0), ((HB.out.cell (World.block_lt_of_cell? w _ hw356_1)).trans hw356_1), ((HB.out.cell (World.block_lt_of_cell? w _ hw356_2)).trans hw356_2), ((HB.out.cell (World.block_lt_of_cell? w _ hw356_3)).trans hw356_3)⟩ (fun hHeld => ?_)
        clear hK K
        refine sqnm ?_
        refine sqp HT_ 9 26 ?_
        refine done_ (done_of HT_.out (by kernel_rfl)) ?_
        try go_wp2
        go_roundg k1
        case measure => have := HK1.out; omega
        case rel => exact ⟨(wrap64 (x5_1 + 1)), (by first | rfl | (simp; done) | (simp [*]; done)), H', ⟨by have := HK1.out; omega⟩, sqh HB⟩
       ·replace c8 := Bool.eq_false_iff.mpr c8
        subst c8
        have H1 : (some false) = some r := by rw [if_neg (show ¬ (false = true) by decide)] at H; exact H
        clear H
        have H := H1
        clear H1
        obtain rfl := Option.some.inj H
        try go_wp2
        replace HB := Aside0.mk (below_drew1 HB.out)
        have p355 : 0 ≤ (x5_1 : Int) := of_decide_eq_true (by first | (with_reducible assumption) | assumption)
        have q355 : x5_1 < (l0.length : Int) := of_decide_eq_true (by first | (with_reducible assumption) | assumption)
        obtain ⟨ad355, e355, hx355_0, hx355_1, hx355_2, hx355_3⟩ := at_T30 HR0.out x5_1 p355 q355
        have hw355_3 := hx355_3
        have hw355_2 := hx355_2
        have hw355_1 := hx355_1
        have hw355_0 := hx355_0
        cases e355
        replace hx355_0 := (HB.out.cell (World.block_lt_of_cell? w _ hx355_0)).trans hx355_0
        replace hx355_1 := (HB.out.cell (World.block_lt_of_cell? w _ hx355_1)).trans hx355_1
        replace hx355_2 := (HB.out.cell (World.block_lt_of_cell? w _ hx355_2)).trans hx355_2
        replace hx355_3 := (HB.out.cell (World.block_lt_of_cell? w _ hx355_3)).trans hx355_3
        replace p355 := eq_true p355
        replace q355 := eq_true q355
        have p356 : 0 ≤ (x5_1 : Int) := of_decide_eq_true (by first | (with_reducible assumption) | assumption)
        have q356 : x5_1 < (l1.length : Int) := of_decide_eq_true (by first | (with_reducible assumption) | assumption)
        obtain ⟨ad356, e356, hx356_0, hx356_1, hx356_2, hx356_3⟩ := at_T30 HR1.out x5_1 p356 q356
        have hw356_3 := hx356_3
        have hw356_2 := hx356_2
        have hw356_1 := hx356_1
        have hw356_0 := hx356_0
        cases e356
        replace hx356_0 := (HB.out.cell (World.block_lt_of_cell? w _ hx356_0)).trans hx356_0
        replace hx356_1 := (HB.out.cell (World.block_lt_of_cell? w _ hx356_1)).trans hx356_1
        replace hx356_2 := (HB.out.cell (World.block_lt_of_cell? w _ hx356_2)).trans hx356_2
        replace hx356_3 := (HB.out.cell (World.block_lt_of_cell? w _ hx356_3)).trans hx356_3
        replace p356 := eq_true p356
        replace q356 := eq_true q356
        refine start_ (n := 10) (S := fun w' => w'.cell? (ad355.add ((x5_1).toNat * 4)) = some (.int .i64 ((rd_T30 l0 x5_1).f0)) ∧ w'.cell? ⟨(ad355.add ((x5_1).toNat * 4)).block, (ad355.add ((x5_1).toNat * 4)).off + 1, none⟩ = some (.int .i64 ((rd_T30 l0 x5_1).f1)) ∧ w'.cell? ⟨(ad355.add ((x5_1).toNat * 4)).block, (ad355.add ((x5_1).toNat * 4)).off + 2, none⟩ = some (.int .i64 ((rd_T30 l0 x5_1).f2)) ∧ w'.cell? ⟨(ad355.add ((x5_1).toNat * 4)).block, (ad355.add ((x5_1).toNat * 4)).off + 3, none⟩ = some (.int .i64 ((rd_T30 l0 x5_1).f3)) ∧ w'.cell? (ad356.add ((x5_1).toNat * 4)) = some (.int .i64 ((rd_T30 l1 x5_1).f0)) ∧ w'.cell? ⟨(ad356.add ((x5_1).toNat * 4)).block, (ad356.add ((x5_1).toNat * 4)).off + 1, none⟩ = some (.int .i64 ((rd_T30 l1 x5_1).f1)) ∧ w'.cell? ⟨(ad356.add ((x5_1).toNat * 4)).block, (ad356.add ((x5_1).toNat * 4)).off + 2, none⟩ = some (.int .i64 ((rd_T30 l1 x5_1).f2)) ∧ w'.cell? ⟨(ad356.add ((x5_1).toNat * 4)).block, (ad356.add ((x5_1).toNat * 4)).off + 3, none⟩ = some (.int .i64 ((rd_T30 l1 x5_1).f3))) (ds := []) #[false, false, false, false, false, false, false, false, false, false] (by kernel_rfl) rfl rfl ⟨((HB.out.cell (World.block_lt_of_cell? w _ hw355_0)).trans hw355_0), ((HB.out.cell (World.block_lt_of_cell? w _ hw355_1)).trans hw355_1), ((HB.out.cell (World.block_lt_of_cell? w _ hw355_2)).trans hw355_2), ((HB.out.cell (World.block_lt_of_cell? w _ hw355_3)).trans hw355_3), ((HB.out.cell (World.block_lt_of_cell? w _ hw356_0)).trans hw356_0), ((HB.out.cell (World.block_lt_of_cell? w _ hw356_1)).trans hw356_1), ((HB.out.cell (World.block_lt_of_cell? w _ hw356_2)).trans hw356_2), ((HB.out.cell (World.block_lt_of_cell? w _ hw356_3)).trans hw356_3)⟩ (fun hHeld => ?_); refine with_tabW laws_eqValS.tab6 laws_eqValS.bits6 (fun HT_ HW_ => ?_)
        generalize wr.drew = w11 at HB hx355_0 hx355_1 hx355_2 hx355_3 hx356_0 hx356_1 hx356_2 hx356_3 hHeld ⊢
        refine sqp HT_ 0 17 ?_
        refine sqp HT_ 1 18 ?_
        refine sqp HT_ 2 19 ?_
        refine sqp HT_ 4 21 ?_
        refine sqp HT_ 5 22 ?_
        refine sqp HT_ 6 23 ?_
        refine sqw HT_ HW_ 3 20 hHeld ?_
        refine sqw HT_ HW_ 7 24 hHeld ?_
        refine sqo HT_ 8 25 (fun K hK => ?_)
        refine sqG Try.func203 #[.agg #[.int .i64 ((rd_T30 l0 x5_1).f0), .int .i64 ((rd_T30 l0 x5_1).f1), .int .i64 ((rd_T30 l0 x5_1).f2), .int .i64 ((rd_T30 l0 x5_1).f3)], .agg #[.int .i64 ((rd_T30 l1 x5_1).f0), .int .i64 ((rd_T30 l1 x5_1).f1), .int .i64 ((rd_T30 l1 x5_1).f2), .int .i64 ((rd_T30 l1 x5_1).f3)]] ?_
        with_reducible refine (laws_eqVal.calls ((rd_T30 l0 x5_1).f0) ((rd_T30 l0 x5_1).f1) ((rd_T30 l0 x5_1).f2) ((rd_T30 l0 x5_1).f3) ((rd_T30 l1 x5_1).f0) ((rd_T30 l1 x5_1).f1) ((rd_T30 l1 x5_1).f2) ((rd_T30 l1 x5_1).f3) false _ A7.out).mono ?_
        rintro e w12 ⟨rfl, hb⟩
        refine ⟨_, rfl, ?_⟩
        replace HB := sqs HB hb
        (try clear hb)
        refine hK.out _ _ ⟨((HB.out.cell (World.block_lt_of_cell? w _ hw355_0)).trans hw355_0), ((HB.out.cell (World.block_lt_of_cell? w _ hw355_1)).trans hw355_1), ((HB.out.cell (World.block_lt_of_cell? w _ hw355_2)).trans hw355_2), ((HB.out.cell (World.block_lt_of_cell? w _ hw355_3)).trans hw355_3), ((HB.out.cell (World.block_lt_of_cell? w _ hw356_0)).trans hw356_0), ((HB.out.cell (World.block_lt_of_cell? w _ hw356_1)).trans hw356_1), ((HB.out.cell (World.block_lt_of_cell? w _ hw356_2)).trans hw356_2), ((HB.out.cell (World.block_lt_of_cell? w _ hw356_3)).trans hw356_3)⟩ (fun hHeld => ?_)
        clear hK K
        refine sqnm ?_
        refine sqp HT_ 9 26 ?_
        refine done_ (done_of HT_.out (by kernel_rfl)) ?_
        try go_wp2
        go_ret
        exact sqe HB
      ·rw [if_neg c6] at H
       exact absurd H (by simp)
     ·rw [if_neg c5] at H
      exact absurd H (by simp)
    ·rw [if_neg c4] at H
     have c4b0 : decide (x5_1 < (l0.length : Int)) = false := decide_eq_false c4
     clear c4
     obtain rfl := Option.some.inj H
     go_wp2
     go_ret
     exact sqe HB
 ·rw [if_neg c3] at H
  have c3b0 : ((l0.length : Int) == (l1.length : Int)) = false := beq_eq_false_iff_ne.mpr c3
  have c3b1 : ((l0.length : Int) != (l1.length : Int)) = true := bne_iff_ne.mpr c3
  have c3b2 : (l0.length == l1.length) = false := by first | simpa using c3 | (simp at c3 ⊢; omega)
  obtain rfl := Option.some.inj H
  go_enter Try.func146, Try.ntmps146
  go_wp2
  go_ret
  exact sqe HB

/-! ### laws_eqIntS: function 205 -/
theorem laws_eqIntS.mono_l : ∀ k, (∀ y0 y1 y2, LeO (laws_eqIntS.l0 k y0 y1 y2) (laws_eqIntS.l0 (k + 1) y0 y1 y2))
 | 0 => fun _ _ _ r h => by simp [laws_eqIntS.l0] at h
 | k + 1 => by
  have ih0 := laws_eqIntS.mono_l k
  ·intro y0 y1 y2
   unfold laws_eqIntS.l0
   repeat' first
   | (with_reducible exact ih0 _ _ _)
   | (with_reducible exact LeO.refl _)
   | (with_reducible exact LeO.none _)
   | (with_reducible refine LeO.ite ?_ ?_)
   | (with_reducible refine LeO.bind ?_ (fun _ => ?_))
   | exact ih0 _ _ _
   | exact LeO.none _
   | refine LeO.ite ?_ ?_
   | refine LeO.bind ?_ (fun _ => ?_)
theorem laws_eqIntS.mono : ∀ a0 a1 k, LeO (laws_eqIntS.f k a0 a1) (laws_eqIntS.f (k + 1) a0 a1) := by
 intro a0 a1 k
 have ih0 := laws_eqIntS.mono_l k
 unfold laws_eqIntS.f
 repeat' first
   | (with_reducible exact ih0 _ _ _)
   | (with_reducible exact LeO.refl _)
   | (with_reducible exact LeO.none _)
   | (with_reducible refine LeO.ite ?_ ?_)
   | (with_reducible refine LeO.bind ?_ (fun _ => ?_))
   | exact ih0 _ _ _
   | exact LeO.none _
   | refine LeO.ite ?_ ?_
   | refine LeO.bind ?_ (fun _ => ?_)
set_option maxHeartbeats 8000000 in
set_option maxRecDepth 100000 in
theorem laws_eqIntS.calls (k : Nat) (A0 : Option Addr) (c0 : Nat) (l0 : List Int) (A1 : Option Addr) (c1 : Nat) (l1 : List Int) (r : Bool) (w : World) (hr0 : Kd.C (Kd.int .i64) w A0 l0.length l0) (hc0 : l0.length ≤ c0) (hr1 : Kd.C (Kd.int .i64) w A1 l1.length l1) (hc1 : l1.length ≤ c1) (h : laws_eqIntS.f k l0 l1 = some r) :
  Calls Try.prog 205 #[.slice A0 l0.length c0, .slice A1 l1.length c1] w fun e w' => e = .returned (.bool r) ∧ Drawn0 w w' := by
 have HR0 := Aside0.mk hr0
 have HC0 := Aside0.mk hc0
 clear hr0 hc0
 have HR1 := Aside0.mk hr1
 have HC1 := Aside0.mk hc1
 clear hr1 hc1
 have H : (if (l0.length : Int) = (l1.length : Int) then (laws_eqIntS.l0 k l0 l1 0) else (some false)) = some r := h
 clear h
 by_cases c3 : (l0.length : Int) = (l1.length : Int)
 ·rw [if_pos c3] at H
  have c3b0 : ((l0.length : Int) == (l1.length : Int)) = true := beq_iff_eq.mpr c3
  have c3b1 : ((l0.length : Int) != (l1.length : Int)) = false := bne_eq_false_iff_eq.mpr c3
  have c3b2 : (l0.length == l1.length) = true := by first | simpa using c3 | (simp at c3 ⊢; omega)
  clear c3
  have H' := Aside0.mk H
  clear H
  go_enter Try.func205, Try.ntmps205
  go_wp2
  repeat (go_quiet (fail); try go_wp2)
  go_loopg [5] k (fun kq v5 w' => ∃ (x5_1 : Int), v5 = .int .i64 x5_1 ∧ Aside0 (laws_eqIntS.l0 kq l0 l1 x5_1 = some r) ∧ Aside0 (kq ≤ k) ∧ Drawn0 w w')
  case atStart => exact ⟨(0), (by first | rfl | (simp; done) | (simp [*]; done)), H', ⟨Nat.le_refl _⟩, by repeat (first | exact Drawn0.refl _ | apply Drawn0.step)⟩
  case round =>
   clear H'
   try clear c1
   try clear c2
   try clear p2
   try clear c3
   try clear c3b0
   try clear c3b1
   try clear c3b2
   obtain ⟨x5_1, rfl, HA, HK1, ⟨m1, rfl⟩⟩ := hrel
   cases gk with
   | zero => exact absurd HA.out (by simp [laws_eqIntS.l0])
   | succ k1 =>
    have H := HA.out
    clear HA
    simp only [laws_eqIntS.l0] at H
    by_cases c4 : x5_1 < (l0.length : Int)
    ·rw [if_pos c4] at H
     have c4b0 : decide (x5_1 < (l0.length : Int)) = true := decide_eq_true c4
     clear c4
     by_cases c5 : 0 ≤ x5_1
     ·rw [if_pos c5] at H
      have c5b0 : decide (0 ≤ x5_1) = true := decide_eq_true c5
      clear c5
      by_cases c6 : x5_1 < (l1.length : Int)
      ·rw [if_pos c6] at H
       have c6b0 : decide (x5_1 < (l1.length : Int)) = true := decide_eq_true c6
       clear c6
       by_cases c7 : (rd l0 x5_1) = (rd l1 x5_1)
       ·rw [if_pos c7] at H
        have c7b0 : ((rd l0 x5_1) == (rd l1 x5_1)) = true := beq_iff_eq.mpr c7
        have c7b1 : ((rd l0 x5_1) != (rd l1 x5_1)) = false := bne_eq_false_iff_eq.mpr c7
        clear c7
        have H' := Aside0.mk H
        clear H
        have p358 : 0 ≤ (x5_1 : Int) := of_decide_eq_true (by first | (with_reducible assumption) | assumption)
        have q358 : x5_1 < (l0.length : Int) := of_decide_eq_true (by first | (with_reducible assumption) | assumption)
        obtain ⟨ad358, e358, hx358_0⟩ := Kd.at_int HR0.out x5_1 p358 q358
        cases e358
        replace p358 := eq_true p358
        replace q358 := eq_true q358
        have p359 : 0 ≤ (x5_1 : Int) := of_decide_eq_true (by first | (with_reducible assumption) | assumption)
        have q359 : x5_1 < (l1.length : Int) := of_decide_eq_true (by first | (with_reducible assumption) | assumption)
        obtain ⟨ad359, e359, hx359_0⟩ := Kd.at_int HR1.out x5_1 p359 q359
        cases e359
        replace p359 := eq_true p359
        replace q359 := eq_true q359
        go_wp2
        repeat (go_quiet (fail); try go_wp2)
        go_roundg k1
        case measure => have := HK1.out; omega
        case rel => exact ⟨(wrap64 (x5_1 + 1)), (by first | rfl | (simp; done) | (simp [*]; done)), H', ⟨by have := HK1.out; omega⟩, by repeat (first | exact Drawn0.refl _ | apply Drawn0.step)⟩
       ·rw [if_neg c7] at H
        have c7b0 : ((rd l0 x5_1) == (rd l1 x5_1)) = false := beq_eq_false_iff_ne.mpr c7
        have c7b1 : ((rd l0 x5_1) != (rd l1 x5_1)) = true := bne_iff_ne.mpr c7
        obtain rfl := Option.some.inj H
        have p358 : 0 ≤ (x5_1 : Int) := of_decide_eq_true (by first | (with_reducible assumption) | assumption)
        have q358 : x5_1 < (l0.length : Int) := of_decide_eq_true (by first | (with_reducible assumption) | assumption)
        obtain ⟨ad358, e358, hx358_0⟩ := Kd.at_int HR0.out x5_1 p358 q358
        cases e358
        replace p358 := eq_true p358
        replace q358 := eq_true q358
        have p359 : 0 ≤ (x5_1 : Int) := of_decide_eq_true (by first | (with_reducible assumption) | assumption)
        have q359 : x5_1 < (l1.length : Int) := of_decide_eq_true (by first | (with_reducible assumption) | assumption)
        obtain ⟨ad359, e359, hx359_0⟩ := Kd.at_int HR1.out x5_1 p359 q359
        cases e359
        replace p359 := eq_true p359
        replace q359 := eq_true q359
        go_wp2
        repeat (go_quiet (fail); try go_wp2)
        go_ret
        exact ⟨by first | rfl | (simp; done) | (simp [*]; done), by repeat (first | exact Drawn0.refl _ | apply Drawn0.step)⟩
      ·rw [if_neg c6] at H
       exact absurd H (by simp)
     ·rw [if_neg c5] at H
      exact absurd H (by simp)
    ·rw [if_neg c4] at H
     have c4b0 : decide (x5_1 < (l0.length : Int)) = false := decide_eq_false c4
     clear c4
     obtain rfl := Option.some.inj H
     go_wp2
     repeat (go_quiet (fail); try go_wp2)
     go_ret
     exact ⟨by first | rfl | (simp; done) | (simp [*]; done), by repeat (first | exact Drawn0.refl _ | apply Drawn0.step)⟩
 ·rw [if_neg c3] at H
  have c3b0 : ((l0.length : Int) == (l1.length : Int)) = false := beq_eq_false_iff_ne.mpr c3
  have c3b1 : ((l0.length : Int) != (l1.length : Int)) = true := bne_iff_ne.mpr c3
  have c3b2 : (l0.length == l1.length) = false := by first | simpa using c3 | (simp at c3 ⊢; omega)
  obtain rfl := Option.some.inj H
  go_enter Try.func205, Try.ntmps205
  go_wp2
  repeat (go_quiet (fail); try go_wp2)
  go_ret
  exact ⟨by first | rfl | (simp; done) | (simp [*]; done), by repeat (first | exact Drawn0.refl _ | apply Drawn0.step)⟩

/-! ### laws_eqRefVal: function 204 -/
theorem laws_eqRefVal.mono : ∀ a0 a1 a2 a3 a4 a5 a6 a7 a8 a9 a10 a11 k, LeO (laws_eqRefVal.f k a0 a1 a2 a3 a4 a5 a6 a7 a8 a9 a10 a11) (laws_eqRefVal.f (k + 1) a0 a1 a2 a3 a4 a5 a6 a7 a8 a9 a10 a11) := by
 intro a0 a1 a2 a3 a4 a5 a6 a7 a8 a9 a10 a11 k
 unfold laws_eqRefVal.f
 repeat' first
   | (with_reducible exact laws_eqIntS.mono _ _ _)
   | (with_reducible exact LeO.refl _)
   | (with_reducible exact LeO.none _)
   | (with_reducible refine LeO.ite ?_ ?_)
   | (with_reducible refine LeO.bind ?_ (fun _ => ?_))
   | exact laws_eqIntS.mono _ _ _
   | exact LeO.none _
   | refine LeO.ite ?_ ?_
   | refine LeO.bind ?_ (fun _ => ?_)
set_option maxHeartbeats 8000000 in
set_option maxRecDepth 100000 in
theorem laws_eqRefVal.calls (k : Nat) (a0_0 : Bool) (A0_1 : Option Addr) (c0_1 : Nat) (l0_1 : List Int) (a0_2 : Int) (a0_3 : Int) (a0_4 : Int) (a0_5 : Int) (a1_0 : Bool) (A1_1 : Option Addr) (c1_1 : Nat) (l1_1 : List Int) (a1_2 : Int) (a1_3 : Int) (a1_4 : Int) (a1_5 : Int) (r : Bool) (w : World) (hr0_1 : Kd.C (Kd.int .i64) w A0_1 l0_1.length l0_1) (hc0_1 : l0_1.length ≤ c0_1) (hr1_1 : Kd.C (Kd.int .i64) w A1_1 l1_1.length l1_1) (hc1_1 : l1_1.length ≤ c1_1) (h : laws_eqRefVal.f k a0_0 l0_1 a0_2 a0_3 a0_4 a0_5 a1_0 l1_1 a1_2 a1_3 a1_4 a1_5 = some r) :
  Calls Try.prog 204 #[.agg #[.bool a0_0, .slice A0_1 l0_1.length c0_1, .int .i64 a0_2, .int .i64 a0_3, .int .i64 a0_4, .int .i64 a0_5], .agg #[.bool a1_0, .slice A1_1 l1_1.length c1_1, .int .i64 a1_2, .int .i64 a1_3, .int .i64 a1_4, .int .i64 a1_5]] w fun e w' => e = .returned (.bool r) ∧ Below w.heap.size w w' := by
 have hu132 := Try.underlying132
 have hu30 := Try.underlying30
 have HR0_1 := Aside0.mk hr0_1
 have HC0_1 := Aside0.mk hc0_1
 clear hr0_1 hc0_1
 have HR1_1 := Aside0.mk hr1_1
 have HC1_1 := Aside0.mk hc1_1
 clear hr1_1 hc1_1
 have HB := Aside0.mk (Below.refl w.heap.size w)
 have H : (if (a0_0 != a1_0) = true then (some false) else ((laws_eqIntS.f k l0_1 l1_1).bind fun t362 => (if t362 = true then ((laws_eqVal.f a0_2 a0_3 a0_4 a0_5 a1_2 a1_3 a1_4 a1_5).bind fun t363 => (if t363 = true then (some true) else (some false))) else (some false)))) = some r := h
 clear h
 by_cases c3 : (a0_0 != a1_0) = true
 ·rw [if_pos c3] at H
  have c3b0 : (a0_0 != a1_0) = true := c3
  (try (have c3b1 : decide (a0_0 = a1_0) = false := by simpa using c3))
  (try (have c3b2 : (a0_0 == a1_0) = false := by simpa using c3))
  (try (have c3b3 : ¬ (a0_0 = a1_0) := by simpa using c3))
  clear c3
  obtain rfl := Option.some.inj H
  go_enter Try.func204, Try.ntmps204
  go_wp2_with (first | ((with_reducible refine gate_dst (N := 2) rfl ?_); refine sqx 2 #[.bool a0_0, .slice A0_1 l0_1.length c0_1, .int .i64 a0_2, .int .i64 a0_3, .int .i64 a0_4, .int .i64 a0_5] 132 ?_; intro gb360 hg w4 hbox hb; have BK360 := Aside0.mk (hbox); have GW360 := sqg HB hg; have GE360 := sqg HB hg; replace HB := sqs HB hb; clear hb hbox hg) | ((with_reducible refine gate_dst (N := 3) rfl ?_); refine sqx 3 #[.bool a1_0, .slice A1_1 l1_1.length c1_1, .int .i64 a1_2, .int .i64 a1_3, .int .i64 a1_4, .int .i64 a1_5] 132 ?_; intro gb361 hg w5 hbox hb; have BK361 := Aside0.mk (hbox); have GW361 := sqg HB hg; have GE361 := sqg HB hg; have NB360_361 := sqn BK360 hg; have NB361_360 := sqm BK360 hg; replace BK360 := sqb BK360 hb; replace HB := sqs HB hb; clear hb hbox hg; have hnb6 := NB360_361.out; have hnc6 := NB361_360.out; have hcz7_0 : w5.cell? ⟨gb360, 0, none⟩ = some (.bool a0_0) := (blk_cell BK360.out 0).trans rfl; have hcz7_1 : w5.cell? ⟨gb360, 1, none⟩ = some (.slice A0_1 l0_1.length c0_1) := (blk_cell BK360.out 1).trans rfl; have hcz7_2 : w5.cell? ⟨gb360, 2, none⟩ = some (.int .i64 a0_2) := (blk_cell BK360.out 2).trans rfl; have hcz7_3 : w5.cell? ⟨gb360, 3, none⟩ = some (.int .i64 a0_3) := (blk_cell BK360.out 3).trans rfl; have hcz7_4 : w5.cell? ⟨gb360, 4, none⟩ = some (.int .i64 a0_4) := (blk_cell BK360.out 4).trans rfl; have hcz7_5 : w5.cell? ⟨gb360, 5, none⟩ = some (.int .i64 a0_5) := (blk_cell BK360.out 5).trans rfl; have hfz7_0 := blk_frozen BK360.out 0; have hfz7_1 := blk_frozen BK360.out 1; have hfz7_2 := blk_frozen BK360.out 2; have hfz7_3 := blk_frozen BK360.out 3; have hfz7_4 := blk_frozen BK360.out 4; have hfz7_5 := blk_frozen BK360.out 5; have hcz8_0 : w5.cell? ⟨gb361, 0, none⟩ = some (.bool a1_0) := (blk_cell BK361.out 0).trans rfl; have hcz8_1 : w5.cell? ⟨gb361, 1, none⟩ = some (.slice A1_1 l1_1.length c1_1) := (blk_cell BK361.out 1).trans rfl; have hcz8_2 : w5.cell? ⟨gb361, 2, none⟩ = some (.int .i64 a1_2) := (blk_cell BK361.out 2).trans rfl; have hcz8_3 : w5.cell? ⟨gb361, 3, none⟩ = some (.int .i64 a1_3) := (blk_cell BK361.out 3).trans rfl; have hcz8_4 : w5.cell? ⟨gb361, 4, none⟩ = some (.int .i64 a1_4) := (blk_cell BK361.out 4).trans rfl; have hcz8_5 : w5.cell? ⟨gb361, 5, none⟩ = some (.int .i64 a1_5) := (blk_cell BK361.out 5).trans rfl; have hfz8_0 := blk_frozen BK361.out 0; have hfz8_1 := blk_frozen BK361.out 1; have hfz8_2 := blk_frozen BK361.out 2; have hfz8_3 := blk_frozen BK361.out 3; have hfz8_4 := blk_frozen BK361.out 4; have hfz8_5 := blk_frozen BK361.out 5))
  go_ret
  exact sqe HB
 ·rw [if_neg c3] at H
  have c3b0 : (a0_0 != a1_0) = false := by simpa using c3
  (try (have c3b1 : decide (a0_0 = a1_0) = true := by simpa using c3))
  (try (have c3b2 : (a0_0 == a1_0) = true := by simpa using c3))
  clear c3
  replace H := Option.bind_eq_some_iff.mp H
  obtain ⟨t362, A90, H⟩ := H
  replace H : (if t362 = true then ((laws_eqVal.f a0_2 a0_3 a0_4 a0_5 a1_2 a1_3 a1_4 a1_5).bind fun t363 => (if t363 = true then (some true) else (some false))) else (some false)) = some r := H
  have A9 := Aside0.mk A90
  clear A90
  by_cases c10 : t362 = true
  ·subst c10
   have H1 : ((laws_eqVal.f a0_2 a0_3 a0_4 a0_5 a1_2 a1_3 a1_4 a1_5).bind fun t363 => (if t363 = true then (some true) else (some false))) = some r := by rw [if_pos rfl] at H; exact H
   clear H
   have H := H1
   clear H1
   replace H := Option.bind_eq_some_iff.mp H
   obtain ⟨t363, A110, H⟩ := H
   replace H : (if t363 = true then (some true) else (some false)) = some r := H
   have A11 := Aside0.mk A110
   clear A110
   by_cases c12 : t363 = true
   ·subst c12
    have H1 : (some true) = some r := by rw [if_pos rfl] at H; exact H
    clear H
    have H := H1
    clear H1
    obtain rfl := Option.some.inj H
    go_enter Try.func204, Try.ntmps204
    go_wp2_with (first | ((with_reducible refine gate_dst (N := 2) rfl ?_); refine sqx 2 #[.bool a0_0, .slice A0_1 l0_1.length c0_1, .int .i64 a0_2, .int .i64 a0_3, .int .i64 a0_4, .int .i64 a0_5] 132 ?_; intro gb360 hg w13 hbox hb; have BK360 := Aside0.mk (hbox); have GW360 := sqg HB hg; have GE360 := sqg HB hg; replace HB := sqs HB hb; clear hb hbox hg) | ((with_reducible refine gate_dst (N := 3) rfl ?_); refine sqx 3 #[.bool a1_0, .slice A1_1 l1_1.length c1_1, .int .i64 a1_2, .int .i64 a1_3, .int .i64 a1_4, .int .i64 a1_5] 132 ?_; intro gb361 hg w14 hbox hb; have BK361 := Aside0.mk (hbox); have GW361 := sqg HB hg; have GE361 := sqg HB hg; have NB360_361 := sqn BK360 hg; have NB361_360 := sqm BK360 hg; replace BK360 := sqb BK360 hb; replace HB := sqs HB hb; clear hb hbox hg; have hnb15 := NB360_361.out; have hnc15 := NB361_360.out; have hcz16_0 : w14.cell? ⟨gb360, 0, none⟩ = some (.bool a0_0) := (blk_cell BK360.out 0).trans rfl; have hcz16_1 : w14.cell? ⟨gb360, 1, none⟩ = some (.slice A0_1 l0_1.length c0_1) := (blk_cell BK360.out 1).trans rfl; have hcz16_2 : w14.cell? ⟨gb360, 2, none⟩ = some (.int .i64 a0_2) := (blk_cell BK360.out 2).trans rfl; have hcz16_3 : w14.cell? ⟨gb360, 3, none⟩ = some (.int .i64 a0_3) := (blk_cell BK360.out 3).trans rfl; have hcz16_4 : w14.cell? ⟨gb360, 4, none⟩ = some (.int .i64 a0_4) := (blk_cell BK360.out 4).trans rfl; have hcz16_5 : w14.cell? ⟨gb360, 5, none⟩ = some (.int .i64 a0_5) := (blk_cell BK360.out 5).trans rfl; have hfz16_0 := blk_frozen BK360.out 0; have hfz16_1 := blk_frozen BK360.out 1; have hfz16_2 := blk_frozen BK360.out 2; have hfz16_3 := blk_frozen BK360.out 3; have hfz16_4 := blk_frozen BK360.out 4; have hfz16_5 := blk_frozen BK360.out 5; have hcz17_0 : w14.cell? ⟨gb361, 0, none⟩ = some (.bool a1_0) := (blk_cell BK361.out 0).trans rfl; have hcz17_1 : w14.cell? ⟨gb361, 1, none⟩ = some (.slice A1_1 l1_1.length c1_1) := (blk_cell BK361.out 1).trans rfl; have hcz17_2 : w14.cell? ⟨gb361, 2, none⟩ = some (.int .i64 a1_2) := (blk_cell BK361.out 2).trans rfl; have hcz17_3 : w14.cell? ⟨gb361, 3, none⟩ = some (.int .i64 a1_3) := (blk_cell BK361.out 3).trans rfl; have hcz17_4 : w14.cell? ⟨gb361, 4, none⟩ = some (.int .i64 a1_4) := (blk_cell BK361.out 4).trans rfl; have hcz17_5 : w14.cell? ⟨gb361, 5, none⟩ = some (.int .i64 a1_5) := (blk_cell BK361.out 5).trans rfl; have hfz17_0 := blk_frozen BK361.out 0; have hfz17_1 := blk_frozen BK361.out 1; have hfz17_2 := blk_frozen BK361.out 2; have hfz17_3 := blk_frozen BK361.out 3; have hfz17_4 := blk_frozen BK361.out 4; have hfz17_5 := blk_frozen BK361.out 5) | ((with_reducible refine gate_callee (f := 205) rfl ?_); refine sqL (some 14) Try.func205 #[.slice A0_1 l0_1.length c0_1, .slice A1_1 l1_1.length c1_1] ?_; (with_reducible refine (laws_eqIntS.calls k _ _ l0_1 _ _ l1_1 true _ ?side1 ?side2 ?side3 ?side4 A9.out).mono ?_); (case side1 => repeat (first | exact (Kd.C_below HR0_1.out HB.out) | (with_reducible refine Kd.C_alloc ?_ _) | (with_reducible refine Kd.C_drewN ?_ _) | (with_reducible refine Kd.C_drew ?_))); (case side2 => exact HC0_1.out); (case side3 => repeat (first | exact (Kd.C_below HR1_1.out HB.out) | (with_reducible refine Kd.C_alloc ?_ _) | (with_reducible refine Kd.C_drewN ?_ _) | (with_reducible refine Kd.C_drew ?_))); (case side4 => exact HC1_1.out); rintro e w' ⟨rfl, ⟨nd, rfl⟩⟩; refine ⟨_, rfl, ?_⟩) | ((with_reducible refine gate_callee (f := 203) rfl ?_); refine sqL (some 20) Try.func203 #[.agg #[.int .i64 a0_2, .int .i64 a0_3, .int .i64 a0_4, .int .i64 a0_5], .agg #[.int .i64 a1_2, .int .i64 a1_3, .int .i64 a1_4, .int .i64 a1_5]] ?_; (with_reducible refine (laws_eqVal.calls a0_2 a0_3 a0_4 a0_5 a1_2 a1_3 a1_4 a1_5 true _ A11.out).mono ?_); rintro e w18 ⟨rfl, hb⟩; refine ⟨_, rfl, ?_⟩; replace BK360 := sqb BK360 hb; replace BK361 := sqb BK361 hb; replace HB := sqs HB hb; (try clear hb)))
    go_ret
    exact sqe HB
   ·replace c12 := Bool.eq_false_iff.mpr c12
    subst c12
    have H1 : (some false) = some r := by rw [if_neg (show ¬ (false = true) by decide)] at H; exact H
    clear H
    have H := H1
    clear H1
    obtain rfl := Option.some.inj H
    go_enter Try.func204, Try.ntmps204
    go_wp2_with (first | ((with_reducible refine gate_dst (N := 2) rfl ?_); refine sqx 2 #[.bool a0_0, .slice A0_1 l0_1.length c0_1, .int .i64 a0_2, .int .i64 a0_3, .int .i64 a0_4, .int .i64 a0_5] 132 ?_; intro gb360 hg w19 hbox hb; have BK360 := Aside0.mk (hbox); have GW360 := sqg HB hg; have GE360 := sqg HB hg; replace HB := sqs HB hb; clear hb hbox hg) | ((with_reducible refine gate_dst (N := 3) rfl ?_); refine sqx 3 #[.bool a1_0, .slice A1_1 l1_1.length c1_1, .int .i64 a1_2, .int .i64 a1_3, .int .i64 a1_4, .int .i64 a1_5] 132 ?_; intro gb361 hg w20 hbox hb; have BK361 := Aside0.mk (hbox); have GW361 := sqg HB hg; have GE361 := sqg HB hg; have NB360_361 := sqn BK360 hg; have NB361_360 := sqm BK360 hg; replace BK360 := sqb BK360 hb; replace HB := sqs HB hb; clear hb hbox hg; have hnb21 := NB360_361.out; have hnc21 := NB361_360.out; have hcz22_0 : w20.cell? ⟨gb360, 0, none⟩ = some (.bool a0_0) := (blk_cell BK360.out 0).trans rfl; have hcz22_1 : w20.cell? ⟨gb360, 1, none⟩ = some (.slice A0_1 l0_1.length c0_1) := (blk_cell BK360.out 1).trans rfl; have hcz22_2 : w20.cell? ⟨gb360, 2, none⟩ = some (.int .i64 a0_2) := (blk_cell BK360.out 2).trans rfl; have hcz22_3 : w20.cell? ⟨gb360, 3, none⟩ = some (.int .i64 a0_3) := (blk_cell BK360.out 3).trans rfl; have hcz22_4 : w20.cell? ⟨gb360, 4, none⟩ = some (.int .i64 a0_4) := (blk_cell BK360.out 4).trans rfl; have hcz22_5 : w20.cell? ⟨gb360, 5, none⟩ = some (.int .i64 a0_5) := (blk_cell BK360.out 5).trans rfl; have hfz22_0 := blk_frozen BK360.out 0; have hfz22_1 := blk_frozen BK360.out 1; have hfz22_2 := blk_frozen BK360.out 2; have hfz22_3 := blk_frozen BK360.out 3; have hfz22_4 := blk_frozen BK360.out 4; have hfz22_5 := blk_frozen BK360.out 5; have hcz23_0 : w20.cell? ⟨gb361, 0, none⟩ = some (.bool a1_0) := (blk_cell BK361.out 0).trans rfl; have hcz23_1 : w20.cell? ⟨gb361, 1, none⟩ = some (.slice A1_1 l1_1.length c1_1) := (blk_cell BK361.out 1).trans rfl; have hcz23_2 : w20.cell? ⟨gb361, 2, none⟩ = some (.int .i64 a1_2) := (blk_cell BK361.out 2).trans rfl; have hcz23_3 : w20.cell? ⟨gb361, 3, none⟩ = some (.int .i64 a1_3) := (blk_cell BK361.out 3).trans rfl; have hcz23_4 : w20.cell? ⟨gb361, 4, none⟩ = some (.int .i64 a1_4) := (blk_cell BK361.out 4).trans rfl; have hcz23_5 : w20.cell? ⟨gb361, 5, none⟩ = some (.int .i64 a1_5) := (blk_cell BK361.out 5).trans rfl; have hfz23_0 := blk_frozen BK361.out 0; have hfz23_1 := blk_frozen BK361.out 1; have hfz23_2 := blk_frozen BK361.out 2; have hfz23_3 := blk_frozen BK361.out 3; have hfz23_4 := blk_frozen BK361.out 4; have hfz23_5 := blk_frozen BK361.out 5) | ((with_reducible refine gate_callee (f := 205) rfl ?_); refine sqL (some 14) Try.func205 #[.slice A0_1 l0_1.length c0_1, .slice A1_1 l1_1.length c1_1] ?_; (with_reducible refine (laws_eqIntS.calls k _ _ l0_1 _ _ l1_1 true _ ?side1 ?side2 ?side3 ?side4 A9.out).mono ?_); (case side1 => repeat (first | exact (Kd.C_below HR0_1.out HB.out) | (with_reducible refine Kd.C_alloc ?_ _) | (with_reducible refine Kd.C_drewN ?_ _) | (with_reducible refine Kd.C_drew ?_))); (case side2 => exact HC0_1.out); (case side3 => repeat (first | exact (Kd.C_below HR1_1.out HB.out) | (with_reducible refine Kd.C_alloc ?_ _) | (with_reducible refine Kd.C_drewN ?_ _) | (with_reducible refine Kd.C_drew ?_))); (case side4 => exact HC1_1.out); rintro e w' ⟨rfl, ⟨nd, rfl⟩⟩; refine ⟨_, rfl, ?_⟩) | ((with_reducible refine gate_callee (f := 203) rfl ?_); refine sqL (some 20) Try.func203 #[.agg #[.int .i64 a0_2, .int .i64 a0_3, .int .i64 a0_4, .int .i64 a0_5], .agg #[.int .i64 a1_2, .int .i64 a1_3, .int .i64 a1_4, .int .i64 a1_5]] ?_; (with_reducible refine (laws_eqVal.calls a0_2 a0_3 a0_4 a0_5 a1_2 a1_3 a1_4 a1_5 false _ A11.out).mono ?_); rintro e w24 ⟨rfl, hb⟩; refine ⟨_, rfl, ?_⟩; replace BK360 := sqb BK360 hb; replace BK361 := sqb BK361 hb; replace HB := sqs HB hb; (try clear hb)))
    go_ret
    exact sqe HB
  ·replace c10 := Bool.eq_false_iff.mpr c10
   subst c10
   have H1 : (some false) = some r := by rw [if_neg (show ¬ (false = true) by decide)] at H; exact H
   clear H
   have H := H1
   clear H1
   obtain rfl := Option.some.inj H
   go_enter Try.func204, Try.ntmps204
   go_wp2_with (first | ((with_reducible refine gate_dst (N := 2) rfl ?_); refine sqx 2 #[.bool a0_0, .slice A0_1 l0_1.length c0_1, .int .i64 a0_2, .int .i64 a0_3, .int .i64 a0_4, .int .i64 a0_5] 132 ?_; intro gb360 hg w25 hbox hb; have BK360 := Aside0.mk (hbox); have GW360 := sqg HB hg; have GE360 := sqg HB hg; replace HB := sqs HB hb; clear hb hbox hg) | ((with_reducible refine gate_dst (N := 3) rfl ?_); refine sqx 3 #[.bool a1_0, .slice A1_1 l1_1.length c1_1, .int .i64 a1_2, .int .i64 a1_3, .int .i64 a1_4, .int .i64 a1_5] 132 ?_; intro gb361 hg w26 hbox hb; have BK361 := Aside0.mk (hbox); have GW361 := sqg HB hg; have GE361 := sqg HB hg; have NB360_361 := sqn BK360 hg; have NB361_360 := sqm BK360 hg; replace BK360 := sqb BK360 hb; replace HB := sqs HB hb; clear hb hbox hg; have hnb27 := NB360_361.out; have hnc27 := NB361_360.out; have hcz28_0 : w26.cell? ⟨gb360, 0, none⟩ = some (.bool a0_0) := (blk_cell BK360.out 0).trans rfl; have hcz28_1 : w26.cell? ⟨gb360, 1, none⟩ = some (.slice A0_1 l0_1.length c0_1) := (blk_cell BK360.out 1).trans rfl; have hcz28_2 : w26.cell? ⟨gb360, 2, none⟩ = some (.int .i64 a0_2) := (blk_cell BK360.out 2).trans rfl; have hcz28_3 : w26.cell? ⟨gb360, 3, none⟩ = some (.int .i64 a0_3) := (blk_cell BK360.out 3).trans rfl; have hcz28_4 : w26.cell? ⟨gb360, 4, none⟩ = some (.int .i64 a0_4) := (blk_cell BK360.out 4).trans rfl; have hcz28_5 : w26.cell? ⟨gb360, 5, none⟩ = some (.int .i64 a0_5) := (blk_cell BK360.out 5).trans rfl; have hfz28_0 := blk_frozen BK360.out 0; have hfz28_1 := blk_frozen BK360.out 1; have hfz28_2 := blk_frozen BK360.out 2; have hfz28_3 := blk_frozen BK360.out 3; have hfz28_4 := blk_frozen BK360.out 4; have hfz28_5 := blk_frozen BK360.out 5; have hcz29_0 : w26.cell? ⟨gb361, 0, none⟩ = some (.bool a1_0) := (blk_cell BK361.out 0).trans rfl; have hcz29_1 : w26.cell? ⟨gb361, 1, none⟩ = some (.slice A1_1 l1_1.length c1_1) := (blk_cell BK361.out 1).trans rfl; have hcz29_2 : w26.cell? ⟨gb361, 2, none⟩ = some (.int .i64 a1_2) := (blk_cell BK361.out 2).trans rfl; have hcz29_3 : w26.cell? ⟨gb361, 3, none⟩ = some (.int .i64 a1_3) := (blk_cell BK361.out 3).trans rfl; have hcz29_4 : w26.cell? ⟨gb361, 4, none⟩ = some (.int .i64 a1_4) := (blk_cell BK361.out 4).trans rfl; have hcz29_5 : w26.cell? ⟨gb361, 5, none⟩ = some (.int .i64 a1_5) := (blk_cell BK361.out 5).trans rfl; have hfz29_0 := blk_frozen BK361.out 0; have hfz29_1 := blk_frozen BK361.out 1; have hfz29_2 := blk_frozen BK361.out 2; have hfz29_3 := blk_frozen BK361.out 3; have hfz29_4 := blk_frozen BK361.out 4; have hfz29_5 := blk_frozen BK361.out 5) | ((with_reducible refine gate_callee (f := 205) rfl ?_); refine sqL (some 14) Try.func205 #[.slice A0_1 l0_1.length c0_1, .slice A1_1 l1_1.length c1_1] ?_; (with_reducible refine (laws_eqIntS.calls k _ _ l0_1 _ _ l1_1 false _ ?side1 ?side2 ?side3 ?side4 A9.out).mono ?_); (case side1 => repeat (first | exact (Kd.C_below HR0_1.out HB.out) | (with_reducible refine Kd.C_alloc ?_ _) | (with_reducible refine Kd.C_drewN ?_ _) | (with_reducible refine Kd.C_drew ?_))); (case side2 => exact HC0_1.out); (case side3 => repeat (first | exact (Kd.C_below HR1_1.out HB.out) | (with_reducible refine Kd.C_alloc ?_ _) | (with_reducible refine Kd.C_drewN ?_ _) | (with_reducible refine Kd.C_drew ?_))); (case side4 => exact HC1_1.out); rintro e w' ⟨rfl, ⟨nd, rfl⟩⟩; refine ⟨_, rfl, ?_⟩))
   go_ret
   exact sqe HB

end Go.Proofs.Ytkekcenlleebeaa.PFnExactAbsOk
