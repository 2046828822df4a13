/- Functions of the program as plain Lean functions, and that calls of them come to what these tell. Conditions: those in each law. -/
import Derived.Test.YtnmgckdgmplddaaSq
import Derived.Test.YtnmgckdgmplddaaDFnExactAbsHas
import Derived.Test.YtnmgckdgmplddaaQFnExactAbsHasx0
import Derived.Test.YtnmgckdgmplddaaQFnExactAbsHasx1
import Derived.Test.YtnmgckdgmplddaaQFnExactAbsHasx3
import Derived.Test.YtnmgckdgmplddaaQFnExactAbsHasx7
namespace Go.Proofs.Ytnmgckdgmplddaa.PFnExactAbsHas
open Go.RowKit Go.Proofs.Ytnmgckdgmplddaa.Sq Go.Proofs.YtnmgckdgmplddaaW.PrintWords Go.Proofs.YtnmgckdgmplddaaW.PrintLast Go.Proofs.YtnmgckdgmplddaaW.PrintMore
attribute [local go_sem] max2_int min2_int max_two min_two max_three min_three max_four min_four   -- for this text's walks alone
set_option linter.unusedVariables false
set_option linter.unusedSimpArgs false

attribute [local go_sem high] eqA60
/-! ### spec_l12Vals: function 42 -/
def spec_l12Vals.T4 : Bool × List (List Nat × List Nat) := (true, [([], []), ([], []), ([0, 1], [0, 1]), ([2], [2]), ([3], [3]), ([4], [4]), ([5, 4], [5]), ([6], [6]), ([6], [6]), ([7, 8, 6], [6, 7, 8]), ([9, 6], [6, 9]), ([6, 6], [6]), ([10, 11, 6], [6, 10, 11]), ([6, 12], [6, 12])])
def spec_l12Vals.B4 : List Nat := [0, 0, 3, 7, 15, 31, 63, 127, 127, 511, 1023, 127, 4095, 8191]
theorem spec_l12Vals.tab4 : rtab .any (opsOf Try.f42 4) = spec_l12Vals.T4 := by kernel_rfl
theorem spec_l12Vals.bits4 : waitsOk spec_l12Vals.T4.2 spec_l12Vals.B4 = true := by kernel_rfl
set_option maxHeartbeats 8000000 in
set_option maxRecDepth 100000 in
theorem spec_l12Vals.calls (k : Nat) (A0 : Option Addr) (c0 : Nat) (l0 : List (S60)) (r : Bool) (w : World) (hr0 : Kd.C k60 w A0 l0.length l0) (hc0 : l0.length ≤ c0) (h : spec_l12Vals.f k l0 = some r) :
  Calls Try.prog 42 #[.slice A0 l0.length c0] w fun e w' => e = .returned (.bool r) ∧ Below w.heap.size w w' := by
 have hu60 := Try.underlying60
 have HR0 := Aside0.mk hr0
 have HC0 := Aside0.mk hc0
 clear hr0 hc0
 have HB := Aside0.mk (Below.refl w.heap.size w)
 have H := h
 unfold spec_l12Vals.f at H
 clear h
 have H' := Aside0.mk H
 clear H
 go_enter Try.func42, Try.ntmps42
 go_wp2
 go_loopg [3] k (fun kq v3 w' => ∃ (x3_1 : Int), v3 = .int .i64 x3_1 ∧ Aside0 (spec_l12Vals.l0 kq l0 x3_1 = some r) ∧ Aside0 (kq ≤ k) ∧ Aside0 (Below w.heap.size w w'))
 case atStart => exact ⟨(0), (by first | rfl | (simp; done) | (simp [*]; done)), H', ⟨Nat.le_refl _⟩, sqh HB⟩
 case round =>
  clear H'
  obtain ⟨x3_1, rfl, HA, HK1, HB⟩ := hrel
  cases gk with
  | zero => exact absurd HA.out (by simp [spec_l12Vals.l0])
  | succ k1 =>
   have H := HA.out
   clear HA
   simp only [spec_l12Vals.l0] at H
   replace H := sqi H
   rcases H with ⟨c2, H⟩ | ⟨c2, H⟩
   ·have c2b0 := decide_eq_false c2
    clear c2
    obtain rfl := Option.some.inj H
    go_wp2
    go_ret
    exact sqe HB
   have c2b0 := decide_eq_true c2
   clear c2
   replace H := sqi H
   rcases H with ⟨c3, H⟩ | ⟨c3, H⟩
   ·exact absurd H (by simp)
   have c3b0 := decide_eq_true c3
   clear c3
   replace H := Option.bind_eq_some_iff.mp H
   obtain ⟨t195, A40, H⟩ := H
   try dsimp only at H
   have A4 := Aside0.mk A40
   clear A40
   rcases sqI (t195 = true) with c5 | c5
   ·replace c5 := Bool.eq_false_iff.mpr c5
    subst c5
    have H1 : (some false) = some r := by rw [if_neg (show ¬ (false = true) by decide)] at H; exact H
    clear H
    have H := H1
    clear H1
    obtain rfl := Option.some.inj H
    try go_wp2
    replace HB := Aside0.mk (below_drew1 HB.out)
    have p194 : 0 ≤ (x3_1 : Int) := sqd
    have q194 : x3_1 < (l0.length : Int) := sqd
    obtain ⟨ad194, e194, hx194_0, hx194_1, hx194_2, hx194_3⟩ := at_T60 HR0.out x3_1 p194 q194
    have hw194_3 := hx194_3
    have hw194_2 := hx194_2
    have hw194_1 := hx194_1
    have hw194_0 := hx194_0
    cases e194
    replace hx194_0 := sqa HB hx194_0
    replace hx194_1 := sqa HB hx194_1
    replace hx194_2 := sqa HB hx194_2
    replace hx194_3 := sqa HB hx194_3
    replace p194 := eq_true p194
    replace q194 := eq_true q194
    refine start_ (n := 14) (S := fun w' => w'.cell? (ad194.add ((x3_1).toNat * 4)) = some (.int .i64 ((rd_T60 l0 x3_1).f0)) ∧ w'.cell? ⟨(ad194.add ((x3_1).toNat * 4)).block, (ad194.add ((x3_1).toNat * 4)).off + 1, none⟩ = some (.int .i64 ((rd_T60 l0 x3_1).f1)) ∧ w'.cell? ⟨(ad194.add ((x3_1).toNat * 4)).block, (ad194.add ((x3_1).toNat * 4)).off + 2, none⟩ = some (.int .i64 ((rd_T60 l0 x3_1).f2)) ∧ w'.cell? ⟨(ad194.add ((x3_1).toNat * 4)).block, (ad194.add ((x3_1).toNat * 4)).off + 3, none⟩ = some (.int .i64 ((rd_T60 l0 x3_1).f3))) (ds := []) #[false, false, false, false, false, false, false, false, false, false, false, false, false, false] (by kernel_rfl) rfl rfl ⟨(sqa HB hw194_0 :), (sqa HB hw194_1 :), (sqa HB hw194_2 :), (sqa HB hw194_3 :)⟩ (fun hHeld => ?_); refine with_tabW spec_l12Vals.tab4 spec_l12Vals.bits4 (fun HT_ HW_ => ?_)
    generalize wr.drew = w14 at HB hx194_0 hx194_1 hx194_2 hx194_3 hHeld ⊢
    refine sqp HT_ 0 10 ?_
    refine sqp HT_ 1 11 ?_
    refine sqp HT_ 2 12 ?_
    refine sqw HT_ HW_ 3 13 hHeld ?_
    refine sqo HT_ 4 14 (fun K hK => ?_)
    refine sqG Try.func44 #[.agg #[.int .i64 ((rd_T60 l0 x3_1).f0), .int .i64 ((rd_T60 l0 x3_1).f1), .int .i64 ((rd_T60 l0 x3_1).f2), .int .i64 ((rd_T60 l0 x3_1).f3)]] ?_
    with_reducible refine (spec_ValOk.calls k1 ((rd_T60 l0 x3_1).f0) ((rd_T60 l0 x3_1).f1) ((rd_T60 l0 x3_1).f2) ((rd_T60 l0 x3_1).f3) false _ A4.out).mono ?_
    rintro e w15 ⟨rfl, hb⟩
    refine ⟨_, rfl, ?_⟩
    replace HB := sqs HB hb
    (try clear hb)
    refine hK.out _ _ ⟨(sqa HB hw194_0 :), (sqa HB hw194_1 :), (sqa HB hw194_2 :), (sqa HB hw194_3 :)⟩ (fun hHeld => ?_)
    clear hK K
    refine sqnm ?_
    refine sqp HT_ 5 15 ?_
    refine sqp HT_ 6 16 ?_
    refine sqpu HT_ 7 17 ?_
    refine sqpu HT_ 8 18 ?_
    refine sqpu HT_ 9 19 ?_
    refine sqpu HT_ 10 20 ?_
    refine sqpu HT_ 11 21 ?_
    refine sqpu HT_ 12 22 ?_
    refine sqp HT_ 13 23 ?_
    refine done_ (done_of HT_.out (by kernel_rfl)) ?_
    try go_wp2
    go_ret
    exact sqe HB
   subst c5
   have H1 : ((spec_l10None.f).bind fun bt197 => (if (((rd_T60 l0 x3_1).f0) == bt197.1 && (((rd_T60 l0 x3_1).f1) == bt197.2.1 && (((rd_T60 l0 x3_1).f2) == bt197.2.2.1 && (((rd_T60 l0 x3_1).f3) == bt197.2.2.2)))) = true then (some false) else (spec_l12Vals.l0 k1 l0 (wrap64 (x3_1 + 1))))) = some r := by rw [if_pos rfl] at H; exact H
   clear H
   have H := H1
   clear H1
   replace H := Option.bind_eq_some_iff.mp H
   obtain ⟨⟨t197, t198, t199, t200⟩, A60, H⟩ := H
   try dsimp only at H
   have A6 := Aside0.mk A60
   clear A60
   replace H := sqj H
   rcases H with ⟨c7, H⟩ | ⟨c7, H⟩
   ·have c7b0 : (((rd_T60 l0 x3_1).f0) == t197 && (((rd_T60 l0 x3_1).f1) == t198 && (((rd_T60 l0 x3_1).f2) == t199 && (((rd_T60 l0 x3_1).f3) == t200)))) = true := c7
    (try (have c7b1 : decide (((rd_T60 l0 x3_1).f0) = t197 && (((rd_T60 l0 x3_1).f1) == t198 && (((rd_T60 l0 x3_1).f2) == t199 && (((rd_T60 l0 x3_1).f3) == t200)))) = true := by simpa using c7))
    (try (have c7b2 : (((rd_T60 l0 x3_1).f0) == t197 && (((rd_T60 l0 x3_1).f1) == t198 && (((rd_T60 l0 x3_1).f2) == t199 && (((rd_T60 l0 x3_1).f3) == t200)))) = true := by simpa using c7))
    clear c7
    obtain rfl := Option.some.inj H
    try go_wp2
    replace HB := Aside0.mk (below_drew1 HB.out)
    have p194 : 0 ≤ (x3_1 : Int) := sqd
    have q194 : x3_1 < (l0.length : Int) := sqd
    obtain ⟨ad194, e194, hx194_0, hx194_1, hx194_2, hx194_3⟩ := at_T60 HR0.out x3_1 p194 q194
    have hw194_3 := hx194_3
    have hw194_2 := hx194_2
    have hw194_1 := hx194_1
    have hw194_0 := hx194_0
    cases e194
    replace hx194_0 := sqa HB hx194_0
    replace hx194_1 := sqa HB hx194_1
    replace hx194_2 := sqa HB hx194_2
    replace hx194_3 := sqa HB hx194_3
    replace p194 := eq_true p194
    replace q194 := eq_true q194
    have p196 : 0 ≤ (x3_1 : Int) := sqd
    have q196 : x3_1 < (l0.length : Int) := sqd
    obtain ⟨ad196, e196, hx196_0, hx196_1, hx196_2, hx196_3⟩ := at_T60 HR0.out x3_1 p196 q196
    have hw196_3 := hx196_3
    have hw196_2 := hx196_2
    have hw196_1 := hx196_1
    have hw196_0 := hx196_0
    obtain rfl : ad194 = ad196 := (by injection e196)
    replace hx196_0 := sqa HB hx196_0
    replace hx196_1 := sqa HB hx196_1
    replace hx196_2 := sqa HB hx196_2
    replace hx196_3 := sqa HB hx196_3
    replace p196 := eq_true p196
    replace q196 := eq_true q196
    refine start_ (n := 14) (S := fun w' => w'.cell? (ad194.add ((x3_1).toNat * 4)) = some (.int .i64 ((rd_T60 l0 x3_1).f0)) ∧ w'.cell? ⟨(ad194.add ((x3_1).toNat * 4)).block, (ad194.add ((x3_1).toNat * 4)).off + 1, none⟩ = some (.int .i64 ((rd_T60 l0 x3_1).f1)) ∧ w'.cell? ⟨(ad194.add ((x3_1).toNat * 4)).block, (ad194.add ((x3_1).toNat * 4)).off + 2, none⟩ = some (.int .i64 ((rd_T60 l0 x3_1).f2)) ∧ w'.cell? ⟨(ad194.add ((x3_1).toNat * 4)).block, (ad194.add ((x3_1).toNat * 4)).off + 3, none⟩ = some (.int .i64 ((rd_T60 l0 x3_1).f3)) ∧ w'.cell? (ad194.add ((x3_1).toNat * 4)) = some (.int .i64 ((rd_T60 l0 x3_1).f0)) ∧ w'.cell? ⟨(ad194.add ((x3_1).toNat * 4)).block, (ad194.add ((x3_1).toNat * 4)).off + 1, none⟩ = some (.int .i64 ((rd_T60 l0 x3_1).f1)) ∧ w'.cell? ⟨(ad194.add ((x3_1).toNat * 4)).block, (ad194.add ((x3_1).toNat * 4)).off + 2, none⟩ = some (.int .i64 ((rd_T60 l0 x3_1).f2)) ∧ w'.cell? ⟨(ad194.add ((x3_1).toNat * 4)).block, (ad194.add ((x3_1).toNat * 4)).off + 3, none⟩ = some (.int .i64 ((rd_T60 l0 x3_1).f3))) (ds := []) #[false, false, false, false, false, false, false, false, false, false, false, false, false, false] (by kernel_rfl) rfl rfl ⟨(sqa HB hw194_0 :), (sqa HB hw194_1 :), (sqa HB hw194_2 :), (sqa HB hw194_3 :), (sqa HB hw196_0 :), (sqa HB hw196_1 :), (sqa HB hw196_2 :), (sqa HB hw196_3 :)⟩ (fun hHeld => ?_); refine with_tabW spec_l12Vals.tab4 spec_l12Vals.bits4 (fun HT_ HW_ => ?_)
    generalize wr.drew = w8 at HB hx194_0 hx194_1 hx194_2 hx194_3 hx196_0 hx196_1 hx196_2 hx196_3 hHeld ⊢
    refine sqp HT_ 0 10 ?_
    refine sqp HT_ 1 11 ?_
    refine sqp HT_ 2 12 ?_
    refine sqw HT_ HW_ 3 13 hHeld ?_
    refine sqo HT_ 4 14 (fun K hK => ?_)
    refine sqG Try.func44 #[.agg #[.int .i64 ((rd_T60 l0 x3_1).f0), .int .i64 ((rd_T60 l0 x3_1).f1), .int .i64 ((rd_T60 l0 x3_1).f2), .int .i64 ((rd_T60 l0 x3_1).f3)]] ?_
    with_reducible refine (spec_ValOk.calls k1 ((rd_T60 l0 x3_1).f0) ((rd_T60 l0 x3_1).f1) ((rd_T60 l0 x3_1).f2) ((rd_T60 l0 x3_1).f3) true _ A4.out).mono ?_
    rintro e w9 ⟨rfl, hb⟩
    refine ⟨_, rfl, ?_⟩
    replace HB := sqs HB hb
    (try clear hb)
    refine hK.out _ _ ⟨(sqa HB hw194_0 :), (sqa HB hw194_1 :), (sqa HB hw194_2 :), (sqa HB hw194_3 :), (sqa HB hw196_0 :), (sqa HB hw196_1 :), (sqa HB hw196_2 :), (sqa HB hw196_3 :)⟩ (fun hHeld => ?_)
    clear hK K
    refine sqnm ?_
    refine sqp HT_ 5 15 ?_
    refine sqp HT_ 6 16 ?_
    refine sqp HT_ 7 17 ?_
    refine sqp HT_ 8 18 ?_
    refine sqp HT_ 9 19 ?_
    refine sqw HT_ HW_ 10 20 hHeld ?_
    refine sqo HT_ 11 21 (fun K hK => ?_)
    refine sqG Try.func45 #[] ?_
    with_reducible refine (spec_l10None.calls  t197 t198 t199 t200 _ A6.out).mono ?_
    rintro e w10 ⟨rfl, hb⟩
    refine ⟨_, rfl, ?_⟩
    replace HB := sqs HB hb
    (try clear hb)
    refine hK.out _ _ ⟨(sqa HB hw194_0 :), (sqa HB hw194_1 :), (sqa HB hw194_2 :), (sqa HB hw194_3 :), (sqa HB hw196_0 :), (sqa HB hw196_1 :), (sqa HB hw196_2 :), (sqa HB hw196_3 :)⟩ (fun hHeld => ?_)
    clear hK K
    refine sqnm ?_
    refine sqp HT_ 12 22 ?_
    refine sqp HT_ 13 23 ?_
    refine done_ (done_of HT_.out (by kernel_rfl)) ?_
    try go_wp2
    go_ret
    exact sqe HB
   have c7b0 : (((rd_T60 l0 x3_1).f0) == t197 && (((rd_T60 l0 x3_1).f1) == t198 && (((rd_T60 l0 x3_1).f2) == t199 && (((rd_T60 l0 x3_1).f3) == t200)))) = false := by simpa using c7
   (try (have c7b1 : decide (((rd_T60 l0 x3_1).f0) = t197 && (((rd_T60 l0 x3_1).f1) == t198 && (((rd_T60 l0 x3_1).f2) == t199 && (((rd_T60 l0 x3_1).f3) == t200)))) = false := by simpa using c7))
   (try (have c7b2 : (((rd_T60 l0 x3_1).f0) == t197 && (((rd_T60 l0 x3_1).f1) == t198 && (((rd_T60 l0 x3_1).f2) == t199 && (((rd_T60 l0 x3_1).f3) == t200)))) = false := by simpa using c7))
   (try (have c7b3 : ¬ (((rd_T60 l0 x3_1).f0) = t197 && (((rd_T60 l0 x3_1).f1) == t198 && (((rd_T60 l0 x3_1).f2) == t199 && (((rd_T60 l0 x3_1).f3) == t200)))) := by simpa using c7))
   clear c7
   have H' := Aside0.mk H
   clear H
   try go_wp2
   replace HB := Aside0.mk (below_drew1 HB.out)
   have p194 : 0 ≤ (x3_1 : Int) := sqd
   have q194 : x3_1 < (l0.length : Int) := sqd
   obtain ⟨ad194, e194, hx194_0, hx194_1, hx194_2, hx194_3⟩ := at_T60 HR0.out x3_1 p194 q194
   have hw194_3 := hx194_3
   have hw194_2 := hx194_2
   have hw194_1 := hx194_1
   have hw194_0 := hx194_0
   cases e194
   replace hx194_0 := sqa HB hx194_0
   replace hx194_1 := sqa HB hx194_1
   replace hx194_2 := sqa HB hx194_2
   replace hx194_3 := sqa HB hx194_3
   replace p194 := eq_true p194
   replace q194 := eq_true q194
   have p196 : 0 ≤ (x3_1 : Int) := sqd
   have q196 : x3_1 < (l0.length : Int) := sqd
   obtain ⟨ad196, e196, hx196_0, hx196_1, hx196_2, hx196_3⟩ := at_T60 HR0.out x3_1 p196 q196
   have hw196_3 := hx196_3
   have hw196_2 := hx196_2
   have hw196_1 := hx196_1
   have hw196_0 := hx196_0
   obtain rfl : ad194 = ad196 := (by injection e196)
   replace hx196_0 := sqa HB hx196_0
   replace hx196_1 := sqa HB hx196_1
   replace hx196_2 := sqa HB hx196_2
   replace hx196_3 := sqa HB hx196_3
   replace p196 := eq_true p196
   replace q196 := eq_true q196
   refine start_ (n := 14) (S := fun w' => w'.cell? (ad194.add ((x3_1).toNat * 4)) = some (.int .i64 ((rd_T60 l0 x3_1).f0)) ∧ w'.cell? ⟨(ad194.add ((x3_1).toNat * 4)).block, (ad194.add ((x3_1).toNat * 4)).off + 1, none⟩ = some (.int .i64 ((rd_T60 l0 x3_1).f1)) ∧ w'.cell? ⟨(ad194.add ((x3_1).toNat * 4)).block, (ad194.add ((x3_1).toNat * 4)).off + 2, none⟩ = some (.int .i64 ((rd_T60 l0 x3_1).f2)) ∧ w'.cell? ⟨(ad194.add ((x3_1).toNat * 4)).block, (ad194.add ((x3_1).toNat * 4)).off + 3, none⟩ = some (.int .i64 ((rd_T60 l0 x3_1).f3)) ∧ w'.cell? (ad194.add ((x3_1).toNat * 4)) = some (.int .i64 ((rd_T60 l0 x3_1).f0)) ∧ w'.cell? ⟨(ad194.add ((x3_1).toNat * 4)).block, (ad194.add ((x3_1).toNat * 4)).off + 1, none⟩ = some (.int .i64 ((rd_T60 l0 x3_1).f1)) ∧ w'.cell? ⟨(ad194.add ((x3_1).toNat * 4)).block, (ad194.add ((x3_1).toNat * 4)).off + 2, none⟩ = some (.int .i64 ((rd_T60 l0 x3_1).f2)) ∧ w'.cell? ⟨(ad194.add ((x3_1).toNat * 4)).block, (ad194.add ((x3_1).toNat * 4)).off + 3, none⟩ = some (.int .i64 ((rd_T60 l0 x3_1).f3))) (ds := []) #[false, false, false, false, false, false, false, false, false, false, false, false, false, false] (by kernel_rfl) rfl rfl ⟨(sqa HB hw194_0 :), (sqa HB hw194_1 :), (sqa HB hw194_2 :), (sqa HB hw194_3 :), (sqa HB hw196_0 :), (sqa HB hw196_1 :), (sqa HB hw196_2 :), (sqa HB hw196_3 :)⟩ (fun hHeld => ?_); refine with_tabW spec_l12Vals.tab4 spec_l12Vals.bits4 (fun HT_ HW_ => ?_)
   generalize wr.drew = w11 at HB hx194_0 hx194_1 hx194_2 hx194_3 hx196_0 hx196_1 hx196_2 hx196_3 hHeld ⊢
   refine sqp HT_ 0 10 ?_
   refine sqp HT_ 1 11 ?_
   refine sqp HT_ 2 12 ?_
   refine sqw HT_ HW_ 3 13 hHeld ?_
   refine sqo HT_ 4 14 (fun K hK => ?_)
   refine sqG Try.func44 #[.agg #[.int .i64 ((rd_T60 l0 x3_1).f0), .int .i64 ((rd_T60 l0 x3_1).f1), .int .i64 ((rd_T60 l0 x3_1).f2), .int .i64 ((rd_T60 l0 x3_1).f3)]] ?_
   with_reducible refine (spec_ValOk.calls k1 ((rd_T60 l0 x3_1).f0) ((rd_T60 l0 x3_1).f1) ((rd_T60 l0 x3_1).f2) ((rd_T60 l0 x3_1).f3) true _ A4.out).mono ?_
   rintro e w12 ⟨rfl, hb⟩
   refine ⟨_, rfl, ?_⟩
   replace HB := sqs HB hb
   (try clear hb)
   refine hK.out _ _ ⟨(sqa HB hw194_0 :), (sqa HB hw194_1 :), (sqa HB hw194_2 :), (sqa HB hw194_3 :), (sqa HB hw196_0 :), (sqa HB hw196_1 :), (sqa HB hw196_2 :), (sqa HB hw196_3 :)⟩ (fun hHeld => ?_)
   clear hK K
   refine sqnm ?_
   refine sqp HT_ 5 15 ?_
   refine sqp HT_ 6 16 ?_
   refine sqp HT_ 7 17 ?_
   refine sqp HT_ 8 18 ?_
   refine sqp HT_ 9 19 ?_
   refine sqw HT_ HW_ 10 20 hHeld ?_
   refine sqo HT_ 11 21 (fun K hK => ?_)
   refine sqG Try.func45 #[] ?_
   with_reducible refine (spec_l10None.calls  t197 t198 t199 t200 _ A6.out).mono ?_
   rintro e w13 ⟨rfl, hb⟩
   refine ⟨_, rfl, ?_⟩
   replace HB := sqs HB hb
   (try clear hb)
   refine hK.out _ _ ⟨(sqa HB hw194_0 :), (sqa HB hw194_1 :), (sqa HB hw194_2 :), (sqa HB hw194_3 :), (sqa HB hw196_0 :), (sqa HB hw196_1 :), (sqa HB hw196_2 :), (sqa HB hw196_3 :)⟩ (fun hHeld => ?_)
   clear hK K
   refine sqnm ?_
   refine sqp HT_ 12 22 ?_
   refine sqp HT_ 13 23 ?_
   refine done_ (done_of HT_.out (by kernel_rfl)) ?_
   try go_wp2
   go_roundg k1
   case measure => have := HK1.out; omega
   case rel => exact ⟨(wrap64 (x3_1 + 1)), (by first | rfl | (simp; done) | (simp [*]; done)), H', ⟨by have := HK1.out; omega⟩, sqh HB⟩

/-! ### spec_l11At: function 53 -/
set_option maxHeartbeats 8000000 in
set_option maxRecDepth 100000 in
theorem spec_l11At.calls (a0_0 : Int) (A0_1 : Option Addr) (c0_1 : Nat) (l0_1 : List Int) (a1 : Int) (a2 : Int) (r : Int) (w : World) (hr0_1 : Kd.C (Kd.int .i64) w A0_1 l0_1.length l0_1) (hc0_1 : l0_1.length ≤ c0_1) (h : spec_l11At.f a0_0 l0_1 a1 a2 = some r) :
  Calls Try.prog 53 #[.agg #[.int .i64 a0_0, .slice A0_1 l0_1.length c0_1], .int .i64 a1, .int .i64 a2] w fun e w' => e = .returned (.int .i64 r) ∧ Below w.heap.size w w' := by
 have hu37 := Try.underlying37
 have HR0_1 := Aside0.mk hr0_1
 have HC0_1 := Aside0.mk hc0_1
 clear hr0_1 hc0_1
 have HB := Aside0.mk (Below.refl w.heap.size w)
 have H := h
 unfold spec_l11At.f at H
 clear h
 obtain ⟨ji4, hji4⟩ : ∃ j_ : Int, (wrap64 ((wrap64 (a1 * (wrap64 (a0_0 + 1)))) + a2)) = j_ := ⟨_, rfl⟩
 replace H : (if 0 ≤ (ji4) then (if (ji4) < (l0_1.length : Int) then (some (rd l0_1 (ji4))) else (none)) else (none)) = some r := by first | (rw [hji4] at H; exact H) | (simp only [hji4] at H ⊢; exact H)
 have hji4w : (IntKind.i64.wrap ((wrap64 (a1 * (wrap64 (a0_0 + 1)))) + a2)) = ji4 := (i64_w _).trans hji4
 replace H := sqi H
 rcases H with ⟨c5, H⟩ | ⟨c5, H⟩
 ·exact absurd H (by simp)
 have c5b0 := decide_eq_true c5
 clear c5
 replace H := sqi H
 rcases H with ⟨c6, H⟩ | ⟨c6, H⟩
 ·exact absurd H (by simp)
 have c6b0 := decide_eq_true c6
 clear c6
 obtain rfl := Option.some.inj H
 go_enter Try.func53, Try.ntmps53
 go_wp2_with (first | ((with_reducible refine gate_dst (N := 3) rfl ?_); refine sqx 3 #[.int .i64 a0_0, .slice A0_1 l0_1.length c0_1] 37 ?_; intro gb201 hg w7 hbox hb; have BK201 := Aside0.mk hbox; have GW201 := sqg HB hg; have GE201 := sqg HB hg; replace HB := sqs HB hb; clear hb hbox hg; obtain ⟨hcz8_0, hcz8_1, hfz8_0, hfz8_1⟩ := sqc2 BK201; have p202 : 0 ≤ ((ji4) : Int) := sqd; have q202 : (ji4) < (l0_1.length : Int) := sqd; obtain ⟨ad202, e202, hx202_0⟩ := Kd.at_int HR0_1.out (ji4) p202 q202; cases e202; replace hx202_0 := sqa HB hx202_0; replace p202 := eq_true p202; replace q202 := eq_true q202))
 go_ret
 exact ⟨by first | rfl | (simp [errW_none, errW_some] <;> rfl) | (simp only [← hji4]; first | rfl | (simp [errW_none, errW_some] <;> rfl)) | (simp [*, errW_none, errW_some] <;> rfl), sqB HB⟩

end Go.Proofs.Ytnmgckdgmplddaa.PFnExactAbsHas
