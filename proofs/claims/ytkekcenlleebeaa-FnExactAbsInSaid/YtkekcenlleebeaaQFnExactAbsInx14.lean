/- Functions of the program as plain Lean functions, and that calls of them come to what these tell. Conditions: those in each law. -/
import Derived.Test.YtkekcenlleebeaaSq
import Derived.Test.YtkekcenlleebeaaDFnExactAbsIn
import Derived.Test.YtkekcenlleebeaaQFnExactAbsInx0
import Derived.Test.YtkekcenlleebeaaQFnExactAbsInx3
import Derived.Test.YtkekcenlleebeaaQFnExactAbsInx8
import Derived.Test.YtkekcenlleebeaaQFnExactAbsInx12
namespace Go.Proofs.Ytkekcenlleebeaa.PFnExactAbsIn
open Go.RowKit Go.Proofs.Ytkekcenlleebeaa.Sq Go.Proofs.YtkekcenlleebeaaW.PrintWords Go.Proofs.YtkekcenlleebeaaW.PrintLast Go.Proofs.YtkekcenlleebeaaW.PrintMore
attribute [local go_sem] max2_int min2_int max_two min_two max_three min_three max_four min_four   -- for this text's walks alone
set_option linter.unusedVariables false
set_option linter.unusedSimpArgs false

attribute [local go_sem high] eqA30
/-! ### spec_l12Vals: function 140 -/
def spec_l12Vals.T4 : Bool × List (List Nat × List Nat) := (true, [([], []), ([], []), ([0, 1], [0, 1]), ([2], [2]), ([3], [3]), ([4], [4]), ([5, 4], [5]), ([6], [6]), ([6], [6]), ([7, 8, 6], [6, 7, 8]), ([9, 6], [6, 9]), ([6, 6], [6]), ([10, 11, 6], [6, 10, 11]), ([6, 12], [6, 12])])
def spec_l12Vals.B4 : List Nat := [0, 0, 3, 7, 15, 31, 63, 127, 127, 511, 1023, 127, 4095, 8191]
theorem spec_l12Vals.tab4 : rtab .any (opsOf Try.f140 4) = spec_l12Vals.T4 := by kernel_rfl
theorem spec_l12Vals.bits4 : waitsOk spec_l12Vals.T4.2 spec_l12Vals.B4 = true := by kernel_rfl
set_option maxHeartbeats 8000000 in
set_option maxRecDepth 100000 in
theorem spec_l12Vals.calls (k : Nat) (A0 : Option Addr) (c0 : Nat) (l0 : List (S30)) (r : Bool) (w : World) (hr0 : Kd.C k30 w A0 l0.length l0) (hc0 : l0.length ≤ c0) (h : spec_l12Vals.f k l0 = some r) :
  Calls Try.prog 140 #[.slice A0 l0.length c0] w fun e w' => e = .returned (.bool r) ∧ Below w.heap.size w w' := by
 have hu30 := Try.underlying30
 have HR0 := Aside0.mk hr0
 have HC0 := Aside0.mk hc0
 clear hr0 hc0
 have HB := Aside0.mk (Below.refl w.heap.size w)
 have H : (spec_l12Vals.l0 k l0 0) = some r := h
 clear h
 have H' := Aside0.mk H
 clear H
 go_enter Try.func140, Try.ntmps140
 go_wp2
 go_loopg [3] k (fun kq v3 w' => ∃ (x3_1 : Int), v3 = .int .i64 x3_1 ∧ Aside0 (spec_l12Vals.l0 kq l0 x3_1 = some r) ∧ Aside0 (kq ≤ k) ∧ Aside0 (Below w.heap.size w w'))
 case atStart => exact ⟨(0), (by first | rfl | (simp; done) | (simp [*]; done)), H', ⟨Nat.le_refl _⟩, sqh HB⟩
 case round =>
  clear H'
  obtain ⟨x3_1, rfl, HA, HK1, HB⟩ := hrel
  cases gk with
  | zero => exact absurd HA.out (by simp [spec_l12Vals.l0])
  | succ k1 =>
   have H := HA.out
   clear HA
   simp only [spec_l12Vals.l0] at H
   replace H := sqi H
   rcases H with ⟨c2, H⟩ | ⟨c2, H⟩
   ·have c2b0 := decide_eq_false c2
    clear c2
    obtain rfl := Option.some.inj H
    go_wp2
    go_ret
    exact sqe HB
   have c2b0 := decide_eq_true c2
   clear c2
   replace H := sqi H
   rcases H with ⟨c3, H⟩ | ⟨c3, H⟩
   ·exact absurd H (by simp)
   have c3b0 := decide_eq_true c3
   clear c3
   replace H := sqbi H
   obtain ⟨t282, A4, H⟩ := H
   replace H : (if t282 = true then ((spec_l10None.f).bind fun bt284 => (if (((rd_T30 l0 x3_1).f0) == bt284.1 && (((rd_T30 l0 x3_1).f1) == bt284.2.1 && (((rd_T30 l0 x3_1).f2) == bt284.2.2.1 && (((rd_T30 l0 x3_1).f3) == bt284.2.2.2)))) = true then (some false) else (spec_l12Vals.l0 k1 l0 (wrap64 (x3_1 + 1))))) else (some false)) = some r := H
   rcases sqI (t282 = true) with c5 | c5
   ·replace c5 := Bool.eq_false_iff.mpr c5
    subst c5
    have H1 : (some false) = some r := by rw [if_neg (show ¬ (false = true) by decide)] at H; exact H
    clear H
    have H := H1
    clear H1
    obtain rfl := Option.some.inj H
    try go_wp2
    replace HB := Aside0.mk (below_drew1 HB.out)
    have p281 : 0 ≤ (x3_1 : Int) := sqd
    have q281 : x3_1 < (l0.length : Int) := sqd
    obtain ⟨ad281, e281, hx281_0, hx281_1, hx281_2, hx281_3⟩ := at_T30 HR0.out x3_1 p281 q281
    have hw281_3 := hx281_3
    have hw281_2 := hx281_2
    have hw281_1 := hx281_1
    have hw281_0 := hx281_0
    cases e281
    replace hx281_0 := sqa HB hx281_0
    replace hx281_1 := sqa HB hx281_1
    replace hx281_2 := sqa HB hx281_2
    replace hx281_3 := sqa HB hx281_3
    replace p281 := eq_true p281
    replace q281 := eq_true q281
    refine start_ (n := 14) (S := fun w' => w'.cell? (ad281.add ((x3_1).toNat * 4)) = some (.int .i64 ((rd_T30 l0 x3_1).f0)) ∧ w'.cell? ⟨(ad281.add ((x3_1).toNat * 4)).block, (ad281.add ((x3_1).toNat * 4)).off + 1, none⟩ = some (.int .i64 ((rd_T30 l0 x3_1).f1)) ∧ w'.cell? ⟨(ad281.add ((x3_1).toNat * 4)).block, (ad281.add ((x3_1).toNat * 4)).off + 2, none⟩ = some (.int .i64 ((rd_T30 l0 x3_1).f2)) ∧ w'.cell? ⟨(ad281.add ((x3_1).toNat * 4)).block, (ad281.add ((x3_1).toNat * 4)).off + 3, none⟩ = some (.int .i64 ((rd_T30 l0 x3_1).f3))) (ds := []) #[false, false, false, false, false, false, false, false, false, false, false, false, false, false] (by kernel_rfl) rfl rfl ⟨(sqa HB hw281_0 :), (sqa HB hw281_1 :), (sqa HB hw281_2 :), (sqa HB hw281_3 :)⟩ (fun hHeld => ?_); refine with_tabW spec_l12Vals.tab4 spec_l12Vals.bits4 (fun HT_ HW_ => ?_)
    generalize wr.drew = w14 at HB hx281_0 hx281_1 hx281_2 hx281_3 hHeld ⊢
    refine sqp HT_ 0 10 ?_
    refine sqp HT_ 1 11 ?_
    refine sqp HT_ 2 12 ?_
    refine sqw HT_ HW_ 3 13 hHeld ?_
    refine sqo HT_ 4 14 (fun K hK => ?_)
    refine sqG Try.func80 #[.agg #[.int .i64 ((rd_T30 l0 x3_1).f0), .int .i64 ((rd_T30 l0 x3_1).f1), .int .i64 ((rd_T30 l0 x3_1).f2), .int .i64 ((rd_T30 l0 x3_1).f3)]] ?_
    with_reducible refine (spec_ValOk.calls k1 ((rd_T30 l0 x3_1).f0) ((rd_T30 l0 x3_1).f1) ((rd_T30 l0 x3_1).f2) ((rd_T30 l0 x3_1).f3) false _ A4.out).mono ?_
    rintro e w15 ⟨rfl, hb⟩
    refine ⟨_, rfl, ?_⟩
    replace HB := sqs HB hb
    (try clear hb)
    refine hK.out _ _ ⟨(sqa HB hw281_0 :), (sqa HB hw281_1 :), (sqa HB hw281_2 :), (sqa HB hw281_3 :)⟩ (fun hHeld => ?_)
    clear hK K
    refine sqnm ?_
    refine sqp HT_ 5 15 ?_
    refine sqp HT_ 6 16 ?_
    refine sqpu HT_ 7 17 ?_
    refine sqpu HT_ 8 18 ?_
    refine sqpu HT_ 9 19 ?_
    refine sqpu HT_ 10 20 ?_
    refine sqpu HT_ 11 21 ?_
    refine sqpu HT_ 12 22 ?_
    refine sqp HT_ 13 23 ?_
    refine done_ (done_of HT_.out (by kernel_rfl)) ?_
    try go_wp2
    go_ret
    exact sqe HB
   subst c5
   have H1 : ((spec_l10None.f).bind fun bt284 => (if (((rd_T30 l0 x3_1).f0) == bt284.1 && (((rd_T30 l0 x3_1).f1) == bt284.2.1 && (((rd_T30 l0 x3_1).f2) == bt284.2.2.1 && (((rd_T30 l0 x3_1).f3) == bt284.2.2.2)))) = true then (some false) else (spec_l12Vals.l0 k1 l0 (wrap64 (x3_1 + 1))))) = some r := by rw [if_pos rfl] at H; exact H
   clear H
   have H := H1
   clear H1
   replace H := sqbi H
   obtain ⟨⟨t284, t285, t286, t287⟩, A6, H⟩ := H
   replace H : (if (((rd_T30 l0 x3_1).f0) == t284 && (((rd_T30 l0 x3_1).f1) == t285 && (((rd_T30 l0 x3_1).f2) == t286 && (((rd_T30 l0 x3_1).f3) == t287)))) = true then (some false) else (spec_l12Vals.l0 k1 l0 (wrap64 (x3_1 + 1)))) = some r := H
   replace H := sqj H
   rcases H with ⟨c7, H⟩ | ⟨c7, H⟩
   ·have c7b0 : (((rd_T30 l0 x3_1).f0) == t284 && (((rd_T30 l0 x3_1).f1) == t285 && (((rd_T30 l0 x3_1).f2) == t286 && (((rd_T30 l0 x3_1).f3) == t287)))) = true := c7
    (try (have c7b1 : decide (((rd_T30 l0 x3_1).f0) = t284 && (((rd_T30 l0 x3_1).f1) == t285 && (((rd_T30 l0 x3_1).f2) == t286 && (((rd_T30 l0 x3_1).f3) == t287)))) = true := by simpa using c7))
    (try (have c7b2 : (((rd_T30 l0 x3_1).f0) == t284 && (((rd_T30 l0 x3_1).f1) == t285 && (((rd_T30 l0 x3_1).f2) == t286 && (((rd_T30 l0 x3_1).f3) == t287)))) = true := by simpa using c7))
    clear c7
    obtain rfl := Option.some.inj H
    try go_wp2
    replace HB := Aside0.mk (below_drew1 HB.out)
    have p281 : 0 ≤ (x3_1 : Int) := sqd
    have q281 : x3_1 < (l0.length : Int) := sqd
    obtain ⟨ad281, e281, hx281_0, hx281_1, hx281_2, hx281_3⟩ := at_T30 HR0.out x3_1 p281 q281
    have hw281_3 := hx281_3
    have hw281_2 := hx281_2
    have hw281_1 := hx281_1
    have hw281_0 := hx281_0
    cases e281
    replace hx281_0 := sqa HB hx281_0
    replace hx281_1 := sqa HB hx281_1
    replace hx281_2 := sqa HB hx281_2
    replace hx281_3 := sqa HB hx281_3
    replace p281 := eq_true p281
    replace q281 := eq_true q281
    have p283 : 0 ≤ (x3_1 : Int) := sqd
    have q283 : x3_1 < (l0.length : Int) := sqd
    obtain ⟨ad283, e283, hx283_0, hx283_1, hx283_2, hx283_3⟩ := at_T30 HR0.out x3_1 p283 q283
    have hw283_3 := hx283_3
    have hw283_2 := hx283_2
    have hw283_1 := hx283_1
    have hw283_0 := hx283_0
    obtain rfl : ad281 = ad283 := (by injection e283)
    replace hx283_0 := sqa HB hx283_0
    replace hx283_1 := sqa HB hx283_1
    replace hx283_2 := sqa HB hx283_2
    replace hx283_3 := sqa HB hx283_3
    replace p283 := eq_true p283
    replace q283 := eq_true q283
    refine start_ (n := 14) (S := fun w' => w'.cell? (ad281.add ((x3_1).toNat * 4)) = some (.int .i64 ((rd_T30 l0 x3_1).f0)) ∧ w'.cell? ⟨(ad281.add ((x3_1).toNat * 4)).block, (ad281.add ((x3_1).toNat * 4)).off + 1, none⟩ = some (.int .i64 ((rd_T30 l0 x3_1).f1)) ∧ w'.cell? ⟨(ad281.add ((x3_1).toNat * 4)).block, (ad281.add ((x3_1).toNat * 4)).off + 2, none⟩ = some (.int .i64 ((rd_T30 l0 x3_1).f2)) ∧ w'.cell? ⟨(ad281.add ((x3_1).toNat * 4)).block, (ad281.add ((x3_1).toNat * 4)).off + 3, none⟩ = some (.int .i64 ((rd_T30 l0 x3_1).f3)) ∧ w'.cell? (ad281.add ((x3_1).toNat * 4)) = some (.int .i64 ((rd_T30 l0 x3_1).f0)) ∧ w'.cell? ⟨(ad281.add ((x3_1).toNat * 4)).block, (ad281.add ((x3_1).toNat * 4)).off + 1, none⟩ = some (.int .i64 ((rd_T30 l0 x3_1).f1)) ∧ w'.cell? ⟨(ad281.add ((x3_1).toNat * 4)).block, (ad281.add ((x3_1).toNat * 4)).off + 2, none⟩ = some (.int .i64 ((rd_T30 l0 x3_1).f2)) ∧ w'.cell? ⟨(ad281.add ((x3_1).toNat * 4)).block, (ad281.add ((x3_1).toNat * 4)).off + 3, none⟩ = some (.int .i64 ((rd_T30 l0 x3_1).f3))) (ds := []) #[false, false, false, false, false, false, false, false, false, false, false, false, false, false] (by kernel_rfl) rfl rfl ⟨(sqa HB hw281_0 :), (sqa HB hw281_1 :), (sqa HB hw281_2 :), (sqa HB hw281_3 :), (sqa HB hw283_0 :), (sqa HB hw283_1 :), (sqa HB hw283_2 :), (sqa HB hw283_3 :)⟩ (fun hHeld => ?_); refine with_tabW spec_l12Vals.tab4 spec_l12Vals.bits4 (fun HT_ HW_ => ?_)
    generalize wr.drew = w8 at HB hx281_0 hx281_1 hx281_2 hx281_3 hx283_0 hx283_1 hx283_2 hx283_3 hHeld ⊢
    refine sqp HT_ 0 10 ?_
    refine sqp HT_ 1 11 ?_
    refine sqp HT_ 2 12 ?_
    refine sqw HT_ HW_ 3 13 hHeld ?_
    refine sqo HT_ 4 14 (fun K hK => ?_)
    refine sqG Try.func80 #[.agg #[.int .i64 ((rd_T30 l0 x3_1).f0), .int .i64 ((rd_T30 l0 x3_1).f1), .int .i64 ((rd_T30 l0 x3_1).f2), .int .i64 ((rd_T30 l0 x3_1).f3)]] ?_
    with_reducible refine (spec_ValOk.calls k1 ((rd_T30 l0 x3_1).f0) ((rd_T30 l0 x3_1).f1) ((rd_T30 l0 x3_1).f2) ((rd_T30 l0 x3_1).f3) true _ A4.out).mono ?_
    rintro e w9 ⟨rfl, hb⟩
    refine ⟨_, rfl, ?_⟩
    replace HB := sqs HB hb
    (try clear hb)
    refine hK.out _ _ ⟨(sqa HB hw281_0 :), (sqa HB hw281_1 :), (sqa HB hw281_2 :), (sqa HB hw281_3 :), (sqa HB hw283_0 :), (sqa HB hw283_1 :), (sqa HB hw283_2 :), (sqa HB hw283_3 :)⟩ (fun hHeld => ?_)
    clear hK K
    refine sqnm ?_
    refine sqp HT_ 5 15 ?_
    refine sqp HT_ 6 16 ?_
    refine sqp HT_ 7 17 ?_
    refine sqp HT_ 8 18 ?_
    refine sqp HT_ 9 19 ?_
    refine sqw HT_ HW_ 10 20 hHeld ?_
    refine sqo HT_ 11 21 (fun K hK => ?_)
    refine sqG Try.func100 #[] ?_
    with_reducible refine (spec_l10None.calls  t284 t285 t286 t287 _ A6.out).mono ?_
    rintro e w10 ⟨rfl, hb⟩
    refine ⟨_, rfl, ?_⟩
    replace HB := sqs HB hb
    (try clear hb)
    refine hK.out _ _ ⟨(sqa HB hw281_0 :), (sqa HB hw281_1 :), (sqa HB hw281_2 :), (sqa HB hw281_3 :), (sqa HB hw283_0 :), (sqa HB hw283_1 :), (sqa HB hw283_2 :), (sqa HB hw283_3 :)⟩ (fun hHeld => ?_)
    clear hK K
    refine sqnm ?_
    refine sqp HT_ 12 22 ?_
    refine sqp HT_ 13 23 ?_
    refine done_ (done_of HT_.out (by kernel_rfl)) ?_
    try go_wp2
    go_ret
    exact sqe HB
   have c7b0 : (((rd_T30 l0 x3_1).f0) == t284 && (((rd_T30 l0 x3_1).f1) == t285 && (((rd_T30 l0 x3_1).f2) == t286 && (((rd_T30 l0 x3_1).f3) == t287)))) = false := by simpa using c7
   (try (have c7b1 : decide (((rd_T30 l0 x3_1).f0) = t284 && (((rd_T30 l0 x3_1).f1) == t285 && (((rd_T30 l0 x3_1).f2) == t286 && (((rd_T30 l0 x3_1).f3) == t287)))) = false := by simpa using c7))
   (try (have c7b2 : (((rd_T30 l0 x3_1).f0) == t284 && (((rd_T30 l0 x3_1).f1) == t285 && (((rd_T30 l0 x3_1).f2) == t286 && (((rd_T30 l0 x3_1).f3) == t287)))) = false := by simpa using c7))
   (try (have c7b3 : ¬ (((rd_T30 l0 x3_1).f0) = t284 && (((rd_T30 l0 x3_1).f1) == t285 && (((rd_T30 l0 x3_1).f2) == t286 && (((rd_T30 l0 x3_1).f3) == t287)))) := by simpa using c7))
   clear c7
   have H' := Aside0.mk H
   clear H
   try go_wp2
   replace HB := Aside0.mk (below_drew1 HB.out)
   have p281 : 0 ≤ (x3_1 : Int) := sqd
   have q281 : x3_1 < (l0.length : Int) := sqd
   obtain ⟨ad281, e281, hx281_0, hx281_1, hx281_2, hx281_3⟩ := at_T30 HR0.out x3_1 p281 q281
   have hw281_3 := hx281_3
   have hw281_2 := hx281_2
   have hw281_1 := hx281_1
   have hw281_0 := hx281_0
   cases e281
   replace hx281_0 := sqa HB hx281_0
   replace hx281_1 := sqa HB hx281_1
   replace hx281_2 := sqa HB hx281_2
   replace hx281_3 := sqa HB hx281_3
   replace p281 := eq_true p281
   replace q281 := eq_true q281
   have p283 : 0 ≤ (x3_1 : Int) := sqd
   have q283 : x3_1 < (l0.length : Int) := sqd
   obtain ⟨ad283, e283, hx283_0, hx283_1, hx283_2, hx283_3⟩ := at_T30 HR0.out x3_1 p283 q283
   have hw283_3 := hx283_3
   have hw283_2 := hx283_2
   have hw283_1 := hx283_1
   have hw283_0 := hx283_0
   obtain rfl : ad281 = ad283 := (by injection e283)
   replace hx283_0 := sqa HB hx283_0
   replace hx283_1 := sqa HB hx283_1
   replace hx283_2 := sqa HB hx283_2
   replace hx283_3 := sqa HB hx283_3
   replace p283 := eq_true p283
   replace q283 := eq_true q283
   refine start_ (n := 14) (S := fun w' => w'.cell? (ad281.add ((x3_1).toNat * 4)) = some (.int .i64 ((rd_T30 l0 x3_1).f0)) ∧ w'.cell? ⟨(ad281.add ((x3_1).toNat * 4)).block, (ad281.add ((x3_1).toNat * 4)).off + 1, none⟩ = some (.int .i64 ((rd_T30 l0 x3_1).f1)) ∧ w'.cell? ⟨(ad281.add ((x3_1).toNat * 4)).block, (ad281.add ((x3_1).toNat * 4)).off + 2, none⟩ = some (.int .i64 ((rd_T30 l0 x3_1).f2)) ∧ w'.cell? ⟨(ad281.add ((x3_1).toNat * 4)).block, (ad281.add ((x3_1).toNat * 4)).off + 3, none⟩ = some (.int .i64 ((rd_T30 l0 x3_1).f3)) ∧ w'.cell? (ad281.add ((x3_1).toNat * 4)) = some (.int .i64 ((rd_T30 l0 x3_1).f0)) ∧ w'.cell? ⟨(ad281.add ((x3_1).toNat * 4)).block, (ad281.add ((x3_1).toNat * 4)).off + 1, none⟩ = some (.int .i64 ((rd_T30 l0 x3_1).f1)) ∧ w'.cell? ⟨(ad281.add ((x3_1).toNat * 4)).block, (ad281.add ((x3_1).toNat * 4)).off + 2, none⟩ = some (.int .i64 ((rd_T30 l0 x3_1).f2)) ∧ w'.cell? ⟨(ad281.add ((x3_1).toNat * 4)).block, (ad281.add ((x3_1).toNat * 4)).off + 3, none⟩ = some (.int .i64 ((rd_T30 l0 x3_1).f3))) (ds := []) #[false, false, false, false, false, false, false, false, false, false, false, false, false, false] (by kernel_rfl) rfl rfl ⟨(sqa HB hw281_0 :), (sqa HB hw281_1 :), (sqa HB hw281_2 :), (sqa HB hw281_3 :), (sqa HB hw283_0 :), (sqa HB hw283_1 :), (sqa HB hw283_2 :), (sqa HB hw283_3 :)⟩ (fun hHeld => ?_); refine with_tabW spec_l12Vals.tab4 spec_l12Vals.bits4 (fun HT_ HW_ => ?_)
   generalize wr.drew = w11 at HB hx281_0 hx281_1 hx281_2 hx281_3 hx283_0 hx283_1 hx283_2 hx283_3 hHeld ⊢
   refine sqp HT_ 0 10 ?_
   refine sqp HT_ 1 11 ?_
   refine sqp HT_ 2 12 ?_
   refine sqw HT_ HW_ 3 13 hHeld ?_
   refine sqo HT_ 4 14 (fun K hK => ?_)
   refine sqG Try.func80 #[.agg #[.int .i64 ((rd_T30 l0 x3_1).f0), .int .i64 ((rd_T30 l0 x3_1).f1), .int .i64 ((rd_T30 l0 x3_1).f2), .int .i64 ((rd_T30 l0 x3_1).f3)]] ?_
   with_reducible refine (spec_ValOk.calls k1 ((rd_T30 l0 x3_1).f0) ((rd_T30 l0 x3_1).f1) ((rd_T30 l0 x3_1).f2) ((rd_T30 l0 x3_1).f3) true _ A4.out).mono ?_
   rintro e w12 ⟨rfl, hb⟩
   refine ⟨_, rfl, ?_⟩
   replace HB := sqs HB hb
   (try clear hb)
   refine hK.out _ _ ⟨(sqa HB hw281_0 :), (sqa HB hw281_1 :), (sqa HB hw281_2 :), (sqa HB hw281_3 :), (sqa HB hw283_0 :), (sqa HB hw283_1 :), (sqa HB hw283_2 :), (sqa HB hw283_3 :)⟩ (fun hHeld => ?_)
   clear hK K
   refine sqnm ?_
   refine sqp HT_ 5 15 ?_
   refine sqp HT_ 6 16 ?_
   refine sqp HT_ 7 17 ?_
   refine sqp HT_ 8 18 ?_
   refine sqp HT_ 9 19 ?_
   refine sqw HT_ HW_ 10 20 hHeld ?_
   refine sqo HT_ 11 21 (fun K hK => ?_)
   refine sqG Try.func100 #[] ?_
   with_reducible refine (spec_l10None.calls  t284 t285 t286 t287 _ A6.out).mono ?_
   rintro e w13 ⟨rfl, hb⟩
   refine ⟨_, rfl, ?_⟩
   replace HB := sqs HB hb
   (try clear hb)
   refine hK.out _ _ ⟨(sqa HB hw281_0 :), (sqa HB hw281_1 :), (sqa HB hw281_2 :), (sqa HB hw281_3 :), (sqa HB hw283_0 :), (sqa HB hw283_1 :), (sqa HB hw283_2 :), (sqa HB hw283_3 :)⟩ (fun hHeld => ?_)
   clear hK K
   refine sqnm ?_
   refine sqp HT_ 12 22 ?_
   refine sqp HT_ 13 23 ?_
   refine done_ (done_of HT_.out (by kernel_rfl)) ?_
   try go_wp2
   go_roundg k1
   case measure => have := HK1.out; omega
   case rel => exact ⟨(wrap64 (x3_1 + 1)), (by first | rfl | (simp; done) | (simp [*]; done)), H', ⟨by have := HK1.out; omega⟩, sqh HB⟩

end Go.Proofs.Ytkekcenlleebeaa.PFnExactAbsIn
