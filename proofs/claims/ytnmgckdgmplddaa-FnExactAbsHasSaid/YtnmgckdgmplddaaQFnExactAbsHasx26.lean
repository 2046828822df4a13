/- Functions of the program as plain Lean functions, and that calls of them come to what these tell. Conditions: those in each law. -/
import Derived.Test.YtnmgckdgmplddaaSq
import Derived.Test.YtnmgckdgmplddaaDFnExactAbsHas
import Derived.Test.YtnmgckdgmplddaaQFnExactAbsHasx0
import Derived.Test.YtnmgckdgmplddaaQFnExactAbsHasx25
namespace Go.Proofs.Ytnmgckdgmplddaa.PFnExactAbsHas
open Go.RowKit Go.Proofs.Ytnmgckdgmplddaa.Sq Go.Proofs.YtnmgckdgmplddaaW.PrintWords Go.Proofs.YtnmgckdgmplddaaW.PrintLast Go.Proofs.YtnmgckdgmplddaaW.PrintMore
attribute [local go_sem] max2_int min2_int max_two min_two max_three min_three max_four min_four   -- for this text's walks alone
set_option linter.unusedVariables false
set_option linter.unusedSimpArgs false

/-! ### laws_eqRefValS: function 35 -/
def laws_eqRefValS.T6 : Bool × List (List Nat × List Nat) := (true, [([], []), ([], []), ([0, 1], [0, 1]), ([2], [2]), ([], []), ([], []), ([4, 5], [4, 5]), ([6], [6]), ([3, 7], [3, 7]), ([8], [8])])
def laws_eqRefValS.B6 : List Nat := [0, 0, 3, 7, 0, 0, 48, 112, 255, 511]
theorem laws_eqRefValS.tab6 : rtab .any (opsOf Try.f35 6) = laws_eqRefValS.T6 := by kernel_rfl
theorem laws_eqRefValS.bits6 : waitsOk laws_eqRefValS.T6.2 laws_eqRefValS.B6 = true := by kernel_rfl
set_option maxHeartbeats 8000000 in
set_option maxRecDepth 100000 in
theorem laws_eqRefValS.calls (k : Nat) (A0 : Option Addr) (c0 : Nat) (l0 : List (S63)) (A1 : Option Addr) (c1 : Nat) (l1 : List (S63)) (r : Bool) (w : World) (hr0 : Kd.C k63 w A0 l0.length l0) (hc0 : l0.length ≤ c0) (hr1 : Kd.C k63 w A1 l1.length l1) (hc1 : l1.length ≤ c1) (h : laws_eqRefValS.f k l0 l1 = some r) :
  Calls Try.prog 35 #[.slice A0 l0.length c0, .slice A1 l1.length c1] w fun e w' => e = .returned (.bool r) ∧ Below w.heap.size w w' := by
 have hu63 := Try.underlying63
 have HR0 := Aside0.mk hr0
 have HC0 := Aside0.mk hc0
 clear hr0 hc0
 have HR1 := Aside0.mk hr1
 have HC1 := Aside0.mk hc1
 clear hr1 hc1
 have HB := Aside0.mk (Below.refl w.heap.size w)
 have H := h
 unfold laws_eqRefValS.f at H
 clear h
 replace H := sqi H
 rcases H with ⟨c3, H⟩ | ⟨c3, H⟩
 ·have c3b0 : ((l0.length : Int) == (l1.length : Int)) = false := beq_eq_false_iff_ne.mpr c3
  have c3b1 : ((l0.length : Int) != (l1.length : Int)) = true := bne_iff_ne.mpr c3
  have c3b2 : (l0.length == l1.length) = false := by first | simpa using c3 | (simp at c3 ⊢; omega)
  obtain rfl := Option.some.inj H
  go_enter Try.func35, Try.ntmps35
  go_wp2
  go_ret
  exact sqe HB
 have c3b0 : ((l0.length : Int) == (l1.length : Int)) = true := beq_iff_eq.mpr c3
 have c3b1 : ((l0.length : Int) != (l1.length : Int)) = false := bne_eq_false_iff_eq.mpr c3
 have c3b2 : (l0.length == l1.length) = true := by first | simpa using c3 | (simp at c3 ⊢; omega)
 clear c3
 have H' := Aside0.mk H
 clear H
 go_enter Try.func35, Try.ntmps35
 go_wp2
 go_loopg [5] k (fun kq v5 w' => ∃ (x5_1 : Int), v5 = .int .i64 x5_1 ∧ Aside0 (laws_eqRefValS.l0 kq l0 l1 x5_1 = some r) ∧ Aside0 (kq ≤ k) ∧ Aside0 (Below w.heap.size w w'))
 case atStart => exact ⟨(0), (by first | rfl | (simp; done) | (simp [*]; done)), H', ⟨Nat.le_refl _⟩, sqh HB⟩
 case round =>
  clear H'
  obtain ⟨x5_1, rfl, HA, HK1, HB⟩ := hrel
  cases gk with
  | zero => exact absurd HA.out (by simp [laws_eqRefValS.l0])
  | succ k1 =>
   have H := HA.out
   clear HA
   simp only [laws_eqRefValS.l0] at H
   replace H := sqi H
   rcases H with ⟨c4, H⟩ | ⟨c4, H⟩
   ·have c4b0 := decide_eq_false c4
    clear c4
    obtain rfl := Option.some.inj H
    go_wp2
    go_ret
    exact sqe HB
   have c4b0 := decide_eq_true c4
   clear c4
   replace H := sqi H
   rcases H with ⟨c5, H⟩ | ⟨c5, H⟩
   ·exact absurd H (by simp)
   have c5b0 := decide_eq_true c5
   clear c5
   replace H := sqi H
   rcases H with ⟨c6, H⟩ | ⟨c6, H⟩
   ·exact absurd H (by simp)
   have c6b0 := decide_eq_true c6
   clear c6
   replace H := Option.bind_eq_some_iff.mp H
   obtain ⟨t484, A70, H⟩ := H
   try dsimp only at H
   have A7 := Aside0.mk A70
   clear A70
   rcases sqI (t484 = true) with c8 | c8
   ·replace c8 := Bool.eq_false_iff.mpr c8
    subst c8
    have H1 : (some false) = some r := by rw [if_neg (show ¬ (false = true) by decide)] at H; exact H
    clear H
    have H := H1
    clear H1
    obtain rfl := Option.some.inj H
    try go_wp2
    replace HB := Aside0.mk (below_drew1 HB.out)
    have p482 : 0 ≤ (x5_1 : Int) := sqd
    have q482 : x5_1 < (l0.length : Int) := sqd
    obtain ⟨ad482, A482_1, c482_1, e482, hx482_0, hx482_1, hx482_2, hx482_3, hx482_4, hx482_5, hl482_1, hi482_1⟩ := at_T63 HR0.out x5_1 p482 q482
    have hw482_5 := hx482_5
    have hw482_4 := hx482_4
    have hw482_3 := hx482_3
    have hw482_2 := hx482_2
    have hw482_1 := hx482_1
    have hw482_0 := hx482_0
    cases e482
    replace hx482_0 := sqa HB hx482_0
    replace hx482_1 := sqa HB hx482_1
    replace hx482_2 := sqa HB hx482_2
    replace hx482_3 := sqa HB hx482_3
    replace hx482_4 := sqa HB hx482_4
    replace hx482_5 := sqa HB hx482_5
    have HR482_1 := Aside0.mk hi482_1
    have HC482_1 := Aside0.mk hl482_1
    clear hi482_1 hl482_1
    replace p482 := eq_true p482
    replace q482 := eq_true q482
    have p483 : 0 ≤ (x5_1 : Int) := sqd
    have q483 : x5_1 < (l1.length : Int) := sqd
    obtain ⟨ad483, A483_1, c483_1, e483, hx483_0, hx483_1, hx483_2, hx483_3, hx483_4, hx483_5, hl483_1, hi483_1⟩ := at_T63 HR1.out x5_1 p483 q483
    have hw483_5 := hx483_5
    have hw483_4 := hx483_4
    have hw483_3 := hx483_3
    have hw483_2 := hx483_2
    have hw483_1 := hx483_1
    have hw483_0 := hx483_0
    cases e483
    replace hx483_0 := sqa HB hx483_0
    replace hx483_1 := sqa HB hx483_1
    replace hx483_2 := sqa HB hx483_2
    replace hx483_3 := sqa HB hx483_3
    replace hx483_4 := sqa HB hx483_4
    replace hx483_5 := sqa HB hx483_5
    have HR483_1 := Aside0.mk hi483_1
    have HC483_1 := Aside0.mk hl483_1
    clear hi483_1 hl483_1
    replace p483 := eq_true p483
    replace q483 := eq_true q483
    refine start_ (n := 10) (S := fun w' => w'.cell? (ad482.add ((x5_1).toNat * 6)) = some (.bool ((rd_T63 l0 x5_1).f0)) ∧ w'.cell? ⟨(ad482.add ((x5_1).toNat * 6)).block, (ad482.add ((x5_1).toNat * 6)).off + 1, none⟩ = some (.slice A482_1 ((rd_T63 l0 x5_1).f1).length c482_1) ∧ w'.cell? ⟨(ad482.add ((x5_1).toNat * 6)).block, (ad482.add ((x5_1).toNat * 6)).off + 2, none⟩ = some (.int .i64 ((rd_T63 l0 x5_1).f2.f0)) ∧ w'.cell? ⟨(ad482.add ((x5_1).toNat * 6)).block, (ad482.add ((x5_1).toNat * 6)).off + 3, none⟩ = some (.int .i64 ((rd_T63 l0 x5_1).f2.f1)) ∧ w'.cell? ⟨(ad482.add ((x5_1).toNat * 6)).block, (ad482.add ((x5_1).toNat * 6)).off + 4, none⟩ = some (.int .i64 ((rd_T63 l0 x5_1).f2.f2)) ∧ w'.cell? ⟨(ad482.add ((x5_1).toNat * 6)).block, (ad482.add ((x5_1).toNat * 6)).off + 5, none⟩ = some (.int .i64 ((rd_T63 l0 x5_1).f2.f3)) ∧ w'.cell? (ad483.add ((x5_1).toNat * 6)) = some (.bool ((rd_T63 l1 x5_1).f0)) ∧ w'.cell? ⟨(ad483.add ((x5_1).toNat * 6)).block, (ad483.add ((x5_1).toNat * 6)).off + 1, none⟩ = some (.slice A483_1 ((rd_T63 l1 x5_1).f1).length c483_1) ∧ w'.cell? ⟨(ad483.add ((x5_1).toNat * 6)).block, (ad483.add ((x5_1).toNat * 6)).off + 2, none⟩ = some (.int .i64 ((rd_T63 l1 x5_1).f2.f0)) ∧ w'.cell? ⟨(ad483.add ((x5_1).toNat * 6)).block, (ad483.add ((x5_1).toNat * 6)).off + 3, none⟩ = some (.int .i64 ((rd_T63 l1 x5_1).f2.f1)) ∧ w'.cell? ⟨(ad483.add ((x5_1).toNat * 6)).block, (ad483.add ((x5_1).toNat * 6)).off + 4, none⟩ = some (.int .i64 ((rd_T63 l1 x5_1).f2.f2)) ∧ w'.cell? ⟨(ad483.add ((x5_1).toNat * 6)).block, (ad483.add ((x5_1).toNat * 6)).off + 5, none⟩ = some (.int .i64 ((rd_T63 l1 x5_1).f2.f3))) (ds := []) #[false, false, false, false, false, false, false, false, false, false] (by kernel_rfl) rfl rfl ⟨(sqa HB hw482_0 :), (sqa HB hw482_1 :), (sqa HB hw482_2 :), (sqa HB hw482_3 :), (sqa HB hw482_4 :), (sqa HB hw482_5 :), (sqa HB hw483_0 :), (sqa HB hw483_1 :), (sqa HB hw483_2 :), (sqa HB hw483_3 :), (sqa HB hw483_4 :), (sqa HB hw483_5 :)⟩ (fun hHeld => ?_); refine with_tabW laws_eqRefValS.tab6 laws_eqRefValS.bits6 (fun HT_ HW_ => ?_)
    generalize wr.drew = w11 at HB HR482_1 HR483_1 hx482_0 hx482_1 hx482_2 hx482_3 hx482_4 hx482_5 hx483_0 hx483_1 hx483_2 hx483_3 hx483_4 hx483_5 hHeld ⊢
    refine sqp HT_ 0 17 ?_
    refine sqp HT_ 1 18 ?_
    refine sqp HT_ 2 19 ?_
    refine sqp HT_ 4 21 ?_
    refine sqp HT_ 5 22 ?_
    refine sqp HT_ 6 23 ?_
    refine sqw HT_ HW_ 3 20 hHeld ?_
    refine sqw HT_ HW_ 7 24 hHeld ?_
    refine sqo HT_ 8 25 (fun K hK => ?_)
    refine sqG Try.func67 #[.agg #[.bool ((rd_T63 l0 x5_1).f0), .slice A482_1 ((rd_T63 l0 x5_1).f1).length c482_1, .int .i64 ((rd_T63 l0 x5_1).f2.f0), .int .i64 ((rd_T63 l0 x5_1).f2.f1), .int .i64 ((rd_T63 l0 x5_1).f2.f2), .int .i64 ((rd_T63 l0 x5_1).f2.f3)], .agg #[.bool ((rd_T63 l1 x5_1).f0), .slice A483_1 ((rd_T63 l1 x5_1).f1).length c483_1, .int .i64 ((rd_T63 l1 x5_1).f2.f0), .int .i64 ((rd_T63 l1 x5_1).f2.f1), .int .i64 ((rd_T63 l1 x5_1).f2.f2), .int .i64 ((rd_T63 l1 x5_1).f2.f3)]] ?_
    with_reducible refine (laws_eqRefVal.calls k1 ((rd_T63 l0 x5_1).f0) _ _ ((rd_T63 l0 x5_1).f1) ((rd_T63 l0 x5_1).f2.f0) ((rd_T63 l0 x5_1).f2.f1) ((rd_T63 l0 x5_1).f2.f2) ((rd_T63 l0 x5_1).f2.f3) ((rd_T63 l1 x5_1).f0) _ _ ((rd_T63 l1 x5_1).f1) ((rd_T63 l1 x5_1).f2.f0) ((rd_T63 l1 x5_1).f2.f1) ((rd_T63 l1 x5_1).f2.f2) ((rd_T63 l1 x5_1).f2.f3) false _ ?side1 ?side2 ?side3 ?side4 A7.out).mono ?_
    (case side1 => exact sqC (Kd.C_below HR482_1.out HB.out))
    (case side2 => exact HC482_1.out)
    (case side3 => exact sqC (Kd.C_below HR483_1.out HB.out))
    (case side4 => exact HC483_1.out)
    rintro e w12 ⟨rfl, hb⟩
    refine ⟨_, rfl, ?_⟩
    replace HB := sqs HB hb
    (try clear hb)
    refine hK.out _ _ ⟨(sqa HB hw482_0 :), (sqa HB hw482_1 :), (sqa HB hw482_2 :), (sqa HB hw482_3 :), (sqa HB hw482_4 :), (sqa HB hw482_5 :), (sqa HB hw483_0 :), (sqa HB hw483_1 :), (sqa HB hw483_2 :), (sqa HB hw483_3 :), (sqa HB hw483_4 :), (sqa HB hw483_5 :)⟩ (fun hHeld => ?_)
    clear hK K
    refine sqnm ?_
    refine sqp HT_ 9 26 ?_
    refine done_ (done_of HT_.out (by kernel_rfl)) ?_
    try go_wp2
    go_ret
    exact sqe HB
   subst c8
   have H1 : (laws_eqRefValS.l0 k1 l0 l1 (wrap64 (x5_1 + 1))) = some r := by rw [if_pos rfl] at H; exact H
   clear H
   have H := H1
   clear H1
   have H' := Aside0.mk H
   clear H
   try go_wp2
   replace HB := Aside0.mk (below_drew1 HB.out)
   have p482 : 0 ≤ (x5_1 : Int) := sqd
   have q482 : x5_1 < (l0.length : Int) := sqd
   obtain ⟨ad482, A482_1, c482_1, e482, hx482_0, hx482_1, hx482_2, hx482_3, hx482_4, hx482_5, hl482_1, hi482_1⟩ := at_T63 HR0.out x5_1 p482 q482
   have hw482_5 := hx482_5
   have hw482_4 := hx482_4
   have hw482_3 := hx482_3
   have hw482_2 := hx482_2
   have hw482_1 := hx482_1
   have hw482_0 := hx482_0
   cases e482
   replace hx482_0 := sqa HB hx482_0
   replace hx482_1 := sqa HB hx482_1
   replace hx482_2 := sqa HB hx482_2
   replace hx482_3 := sqa HB hx482_3
   replace hx482_4 := sqa HB hx482_4
   replace hx482_5 := sqa HB hx482_5
   have HR482_1 := Aside0.mk hi482_1
   have HC482_1 := Aside0.mk hl482_1
   clear hi482_1 hl482_1
   replace p482 := eq_true p482
   replace q482 := eq_true q482
   have p483 : 0 ≤ (x5_1 : Int) := sqd
   have q483 : x5_1 < (l1.length : Int) := sqd
   obtain ⟨ad483, A483_1, c483_1, e483, hx483_0, hx483_1, hx483_2, hx483_3, hx483_4, hx483_5, hl483_1, hi483_1⟩ := at_T63 HR1.out x5_1 p483 q483
   have hw483_5 := hx483_5
   have hw483_4 := hx483_4
   have hw483_3 := hx483_3
   have hw483_2 := hx483_2
   have hw483_1 := hx483_1
   have hw483_0 := hx483_0
   cases e483
   replace hx483_0 := sqa HB hx483_0
   replace hx483_1 := sqa HB hx483_1
   replace hx483_2 := sqa HB hx483_2
   replace hx483_3 := sqa HB hx483_3
   replace hx483_4 := sqa HB hx483_4
   replace hx483_5 := sqa HB hx483_5
   have HR483_1 := Aside0.mk hi483_1
   have HC483_1 := Aside0.mk hl483_1
   clear hi483_1 hl483_1
   replace p483 := eq_true p483
   replace q483 := eq_true q483
   refine start_ (n := 10) (S := fun w' => w'.cell? (ad482.add ((x5_1).toNat * 6)) = some (.bool ((rd_T63 l0 x5_1).f0)) ∧ w'.cell? ⟨(ad482.add ((x5_1).toNat * 6)).block, (ad482.add ((x5_1).toNat * 6)).off + 1, none⟩ = some (.slice A482_1 ((rd_T63 l0 x5_1).f1).length c482_1) ∧ w'.cell? ⟨(ad482.add ((x5_1).toNat * 6)).block, (ad482.add ((x5_1).toNat * 6)).off + 2, none⟩ = some (.int .i64 ((rd_T63 l0 x5_1).f2.f0)) ∧ w'.cell? ⟨(ad482.add ((x5_1).toNat * 6)).block, (ad482.add ((x5_1).toNat * 6)).off + 3, none⟩ = some (.int .i64 ((rd_T63 l0 x5_1).f2.f1)) ∧ w'.cell? ⟨(ad482.add ((x5_1).toNat * 6)).block, (ad482.add ((x5_1).toNat * 6)).off + 4, none⟩ = some (.int .i64 ((rd_T63 l0 x5_1).f2.f2)) ∧ w'.cell? ⟨(ad482.add ((x5_1).toNat * 6)).block, (ad482.add ((x5_1).toNat * 6)).off + 5, none⟩ = some (.int .i64 ((rd_T63 l0 x5_1).f2.f3)) ∧ w'.cell? (ad483.add ((x5_1).toNat * 6)) = some (.bool ((rd_T63 l1 x5_1).f0)) ∧ w'.cell? ⟨(ad483.add ((x5_1).toNat * 6)).block, (ad483.add ((x5_1).toNat * 6)).off + 1, none⟩ = some (.slice A483_1 ((rd_T63 l1 x5_1).f1).length c483_1) ∧ w'.cell? ⟨(ad483.add ((x5_1).toNat * 6)).block, (ad483.add ((x5_1).toNat * 6)).off + 2, none⟩ = some (.int .i64 ((rd_T63 l1 x5_1).f2.f0)) ∧ w'.cell? ⟨(ad483.add ((x5_1).toNat * 6)).block, (ad483.add ((x5_1).toNat * 6)).off + 3, none⟩ = some (.int .i64 ((rd_T63 l1 x5_1).f2.f1)) ∧ w'.cell? ⟨(ad483.add ((x5_1).toNat * 6)).block, (ad483.add ((x5_1).toNat * 6)).off + 4, none⟩ = some (.int .i64 ((rd_T63 l1 x5_1).f2.f2)) ∧ w'.cell? ⟨(ad483.add ((x5_1).toNat * 6)).block, (ad483.add ((x5_1).toNat * 6)).off + 5, none⟩ = some (.int .i64 ((rd_T63 l1 x5_1).f2.f3))) (ds := []) #[false, false, false, false, false, false, false, false, false, false] (by kernel_rfl) rfl rfl ⟨(sqa HB hw482_0 :), (sqa HB hw482_1 :), (sqa HB hw482_2 :), (sqa HB hw482_3 :), (sqa HB hw482_4 :), (sqa HB hw482_5 :), (sqa HB hw483_0 :), (sqa HB hw483_1 :), (sqa HB hw483_2 :), (sqa HB hw483_3 :), (sqa HB hw483_4 :), (sqa HB hw483_5 :)⟩ (fun hHeld => ?_); refine with_tabW laws_eqRefValS.tab6 laws_eqRefValS.bits6 (fun HT_ HW_ => ?_)
   generalize wr.drew = w9 at HB HR482_1 HR483_1 hx482_0 hx482_1 hx482_2 hx482_3 hx482_4 hx482_5 hx483_0 hx483_1 hx483_2 hx483_3 hx483_4 hx483_5 hHeld ⊢
   refine sqp HT_ 0 17 ?_
   refine sqp HT_ 1 18 ?_
   refine sqp HT_ 2 19 ?_
   refine sqp HT_ 4 21 ?_
   refine sqp HT_ 5 22 ?_
   refine sqp HT_ 6 23 ?_
   refine sqw HT_ HW_ 3 20 hHeld ?_
   refine sqw HT_ HW_ 7 24 hHeld ?_
   refine sqo HT_ 8 25 (fun K hK => ?_)
   refine sqG Try.func67 #[.agg #[.bool ((rd_T63 l0 x5_1).f0), .slice A482_1 ((rd_T63 l0 x5_1).f1).length c482_1, .int .i64 ((rd_T63 l0 x5_1).f2.f0), .int .i64 ((rd_T63 l0 x5_1).f2.f1), .int .i64 ((rd_T63 l0 x5_1).f2.f2), .int .i64 ((rd_T63 l0 x5_1).f2.f3)], .agg #[.bool ((rd_T63 l1 x5_1).f0), .slice A483_1 ((rd_T63 l1 x5_1).f1).length c483_1, .int .i64 ((rd_T63 l1 x5_1).f2.f0), .int .i64 ((rd_T63 l1 x5_1).f2.f1), .int .i64 ((rd_T63 l1 x5_1).f2.f2), .int .i64 ((rd_T63 l1 x5_1).f2.f3)]] ?_
   with_reducible refine (laws_eqRefVal.calls k1 ((rd_T63 l0 x5_1).f0) _ _ ((rd_T63 l0 x5_1).f1) ((rd_T63 l0 x5_1).f2.f0) ((rd_T63 l0 x5_1).f2.f1) ((rd_T63 l0 x5_1).f2.f2) ((rd_T63 l0 x5_1).f2.f3) ((rd_T63 l1 x5_1).f0) _ _ ((rd_T63 l1 x5_1).f1) ((rd_T63 l1 x5_1).f2.f0) ((rd_T63 l1 x5_1).f2.f1) ((rd_T63 l1 x5_1).f2.f2) ((rd_T63 l1 x5_1).f2.f3) true _ ?side1 ?side2 ?side3 ?side4 A7.out).mono ?_
   (case side1 => exact sqC (Kd.C_below HR482_1.out HB.out))
   (case side2 => exact HC482_1.out)
   (case side3 => exact sqC (Kd.C_below HR483_1.out HB.out))
   (case side4 => exact HC483_1.out)
   rintro e w10 ⟨rfl, hb⟩
   refine ⟨_, rfl, ?_⟩
   replace HB := sqs HB hb
   (try clear hb)
   refine hK.out _ _ ⟨(sqa HB hw482_0 :), (sqa HB hw482_1 :), (sqa HB hw482_2 :), (sqa HB hw482_3 :), (sqa HB hw482_4 :), (sqa HB hw482_5 :), (sqa HB hw483_0 :), (sqa HB hw483_1 :), (sqa HB hw483_2 :), (sqa HB hw483_3 :), (sqa HB hw483_4 :), (sqa HB hw483_5 :)⟩ (fun hHeld => ?_)
   clear hK K
   refine sqnm ?_
   refine sqp HT_ 9 26 ?_
   refine done_ (done_of HT_.out (by kernel_rfl)) ?_
   try go_wp2
   go_roundg k1
   case measure => have := HK1.out; omega
   case rel => exact ⟨(wrap64 (x5_1 + 1)), (by first | rfl | (simp; done) | (simp [*]; done)), H', ⟨by have := HK1.out; omega⟩, sqh HB⟩

/-! ### laws_eqGaps: function 36 -/
set_option maxHeartbeats 8000000 in
set_option maxRecDepth 100000 in
theorem laws_eqGaps.calls (k : Nat) (a0_0 : Int) (A0_1 : Option Addr) (c0_1 : Nat) (l0_1 : List Int) (a1_0 : Int) (A1_1 : Option Addr) (c1_1 : Nat) (l1_1 : List Int) (r : Bool) (w : World) (hr0_1 : Kd.C (Kd.int .i64) w A0_1 l0_1.length l0_1) (hc0_1 : l0_1.length ≤ c0_1) (hr1_1 : Kd.C (Kd.int .i64) w A1_1 l1_1.length l1_1) (hc1_1 : l1_1.length ≤ c1_1) (h : laws_eqGaps.f k a0_0 l0_1 a1_0 l1_1 = some r) :
  Calls Try.prog 36 #[.agg #[.int .i64 a0_0, .slice A0_1 l0_1.length c0_1], .agg #[.int .i64 a1_0, .slice A1_1 l1_1.length c1_1]] w fun e w' => e = .returned (.bool r) ∧ Below w.heap.size w w' := by
 have hu37 := Try.underlying37
 have HR0_1 := Aside0.mk hr0_1
 have HC0_1 := Aside0.mk hc0_1
 clear hr0_1 hc0_1
 have HR1_1 := Aside0.mk hr1_1
 have HC1_1 := Aside0.mk hc1_1
 clear hr1_1 hc1_1
 have HB := Aside0.mk (Below.refl w.heap.size w)
 have H := h
 unfold laws_eqGaps.f at H
 clear h
 replace H := sqi H
 rcases H with ⟨c3, H⟩ | ⟨c3, H⟩
 ·have c3b0 : (a0_0 == a1_0) = false := beq_eq_false_iff_ne.mpr c3
  have c3b1 : (a0_0 != a1_0) = true := bne_iff_ne.mpr c3
  obtain rfl := Option.some.inj H
  go_enter Try.func36, Try.ntmps36
  go_wp2_with (first | ((with_reducible refine gate_dst (N := 2) rfl ?_); refine sqx 2 #[.int .i64 a0_0, .slice A0_1 l0_1.length c0_1] 37 ?_; intro gb485 hg w16 hbox hb; have BK485 := Aside0.mk hbox; have GW485 := sqg HB hg; have GE485 := sqg HB hg; replace HB := sqs HB hb; clear hb hbox hg) | ((with_reducible refine gate_dst (N := 3) rfl ?_); refine sqx 3 #[.int .i64 a1_0, .slice A1_1 l1_1.length c1_1] 37 ?_; intro gb486 hg w17 hbox hb; have BK486 := Aside0.mk hbox; have GW486 := sqg HB hg; have GE486 := sqg HB hg; have NB485_486 := sqn BK485 hg; have NB486_485 := sqm BK485 hg; replace BK485 := sqb BK485 hb; replace HB := sqs HB hb; clear hb hbox hg; have hnb18 := NB485_486.out; have hnc18 := NB486_485.out; obtain ⟨hcz19_0, hcz19_1, hfz19_0, hfz19_1⟩ := sqc2 BK485; obtain ⟨hcz20_0, hcz20_1, hfz20_0, hfz20_1⟩ := sqc2 BK486))
  go_ret
  exact sqe HB
 have c3b0 : (a0_0 == a1_0) = true := beq_iff_eq.mpr c3
 have c3b1 : (a0_0 != a1_0) = false := bne_eq_false_iff_eq.mpr c3
 clear c3
 replace H := Option.bind_eq_some_iff.mp H
 obtain ⟨t487, A40, H⟩ := H
 try dsimp only at H
 have A4 := Aside0.mk A40
 clear A40
 by_cases c5 : t487 = true
 ·subst c5
  have H1 : (some true) = some r := by rw [if_pos rfl] at H; exact H
  clear H
  have H := H1
  clear H1
  obtain rfl := Option.some.inj H
  go_enter Try.func36, Try.ntmps36
  go_wp2_with (first | ((with_reducible refine gate_dst (N := 2) rfl ?_); refine sqx 2 #[.int .i64 a0_0, .slice A0_1 l0_1.length c0_1] 37 ?_; intro gb485 hg w6 hbox hb; have BK485 := Aside0.mk hbox; have GW485 := sqg HB hg; have GE485 := sqg HB hg; replace HB := sqs HB hb; clear hb hbox hg) | ((with_reducible refine gate_dst (N := 3) rfl ?_); refine sqx 3 #[.int .i64 a1_0, .slice A1_1 l1_1.length c1_1] 37 ?_; intro gb486 hg w7 hbox hb; have BK486 := Aside0.mk hbox; have GW486 := sqg HB hg; have GE486 := sqg HB hg; have NB485_486 := sqn BK485 hg; have NB486_485 := sqm BK485 hg; replace BK485 := sqb BK485 hb; replace HB := sqs HB hb; clear hb hbox hg; have hnb8 := NB485_486.out; have hnc8 := NB486_485.out; obtain ⟨hcz9_0, hcz9_1, hfz9_0, hfz9_1⟩ := sqc2 BK485; obtain ⟨hcz10_0, hcz10_1, hfz10_0, hfz10_1⟩ := sqc2 BK486) | ((with_reducible refine gate_callee (f := 14) rfl ?_); refine sqL (some 14) Try.func14 #[.slice A0_1 l0_1.length c0_1, .slice A1_1 l1_1.length c1_1] ?_; (with_reducible refine (laws_eqIntS.calls k _ _ l0_1 _ _ l1_1 true _ ?side1 ?side2 ?side3 ?side4 A4.out).mono ?_); (case side1 => exact sqC (Kd.C_below HR0_1.out HB.out)); (case side2 => exact HC0_1.out); (case side3 => exact sqC (Kd.C_below HR1_1.out HB.out)); (case side4 => exact HC1_1.out); rintro e w' ⟨rfl, ⟨nd, rfl⟩⟩; refine ⟨_, rfl, ?_⟩))
  go_ret
  exact sqe HB
 replace c5 := Bool.eq_false_iff.mpr c5
 subst c5
 have H1 : (some false) = some r := by rw [if_neg (show ¬ (false = true) by decide)] at H; exact H
 clear H
 have H := H1
 clear H1
 obtain rfl := Option.some.inj H
 go_enter Try.func36, Try.ntmps36
 go_wp2_with (first | ((with_reducible refine gate_dst (N := 2) rfl ?_); refine sqx 2 #[.int .i64 a0_0, .slice A0_1 l0_1.length c0_1] 37 ?_; intro gb485 hg w11 hbox hb; have BK485 := Aside0.mk hbox; have GW485 := sqg HB hg; have GE485 := sqg HB hg; replace HB := sqs HB hb; clear hb hbox hg) | ((with_reducible refine gate_dst (N := 3) rfl ?_); refine sqx 3 #[.int .i64 a1_0, .slice A1_1 l1_1.length c1_1] 37 ?_; intro gb486 hg w12 hbox hb; have BK486 := Aside0.mk hbox; have GW486 := sqg HB hg; have GE486 := sqg HB hg; have NB485_486 := sqn BK485 hg; have NB486_485 := sqm BK485 hg; replace BK485 := sqb BK485 hb; replace HB := sqs HB hb; clear hb hbox hg; have hnb13 := NB485_486.out; have hnc13 := NB486_485.out; obtain ⟨hcz14_0, hcz14_1, hfz14_0, hfz14_1⟩ := sqc2 BK485; obtain ⟨hcz15_0, hcz15_1, hfz15_0, hfz15_1⟩ := sqc2 BK486) | ((with_reducible refine gate_callee (f := 14) rfl ?_); refine sqL (some 14) Try.func14 #[.slice A0_1 l0_1.length c0_1, .slice A1_1 l1_1.length c1_1] ?_; (with_reducible refine (laws_eqIntS.calls k _ _ l0_1 _ _ l1_1 false _ ?side1 ?side2 ?side3 ?side4 A4.out).mono ?_); (case side1 => exact sqC (Kd.C_below HR0_1.out HB.out)); (case side2 => exact HC0_1.out); (case side3 => exact sqC (Kd.C_below HR1_1.out HB.out)); (case side4 => exact HC1_1.out); rintro e w' ⟨rfl, ⟨nd, rfl⟩⟩; refine ⟨_, rfl, ?_⟩))
 go_ret
 exact sqe HB

/-! ### laws_eqAbs: function 13 -/
set_option maxHeartbeats 8000000 in
set_option maxRecDepth 100000 in
theorem laws_eqAbs.calls (k : Nat) (a0_0 : Bool) (A0_1 : Option Addr) (c0_1 : Nat) (l0_1 : List (S60)) (A0_2 : Option Addr) (c0_2 : Nat) (l0_2 : List (S63)) (A0_3 : Option Addr) (c0_3 : Nat) (l0_3 : List (S60)) (a0_4 : Int) (A0_5 : Option Addr) (c0_5 : Nat) (l0_5 : List Int) (a1_0 : Bool) (A1_1 : Option Addr) (c1_1 : Nat) (l1_1 : List (S60)) (A1_2 : Option Addr) (c1_2 : Nat) (l1_2 : List (S63)) (A1_3 : Option Addr) (c1_3 : Nat) (l1_3 : List (S60)) (a1_4 : Int) (A1_5 : Option Addr) (c1_5 : Nat) (l1_5 : List Int) (r : Bool) (w : World) (hr0_1 : Kd.C k60 w A0_1 l0_1.length l0_1) (hc0_1 : l0_1.length ≤ c0_1) (hr0_2 : Kd.C k63 w A0_2 l0_2.length l0_2) (hc0_2 : l0_2.length ≤ c0_2) (hr0_3 : Kd.C k60 w A0_3 l0_3.length l0_3) (hc0_3 : l0_3.length ≤ c0_3) (hr0_5 : Kd.C (Kd.int .i64) w A0_5 l0_5.length l0_5) (hc0_5 : l0_5.length ≤ c0_5) (hr1_1 : Kd.C k60 w A1_1 l1_1.length l1_1) (hc1_1 : l1_1.length ≤ c1_1) (hr1_2 : Kd.C k63 w A1_2 l1_2.length l1_2) (hc1_2 : l1_2.length ≤ c1_2) (hr1_3 : Kd.C k60 w A1_3 l1_3.length l1_3) (hc1_3 : l1_3.length ≤ c1_3) (hr1_5 : Kd.C (Kd.int .i64) w A1_5 l1_5.length l1_5) (hc1_5 : l1_5.length ≤ c1_5) (h : laws_eqAbs.f k a0_0 l0_1 l0_2 l0_3 a0_4 l0_5 a1_0 l1_1 l1_2 l1_3 a1_4 l1_5 = some r) :
  Calls Try.prog 13 #[.agg #[.bool a0_0, .slice A0_1 l0_1.length c0_1, .slice A0_2 l0_2.length c0_2, .slice A0_3 l0_3.length c0_3, .int .i64 a0_4, .slice A0_5 l0_5.length c0_5], .agg #[.bool a1_0, .slice A1_1 l1_1.length c1_1, .slice A1_2 l1_2.length c1_2, .slice A1_3 l1_3.length c1_3, .int .i64 a1_4, .slice A1_5 l1_5.length c1_5]] w fun e w' => e = .returned (.bool r) ∧ Below w.heap.size w w' := by
 have hu39 := Try.underlying39
 have hu37 := Try.underlying37
 have HR0_1 := Aside0.mk hr0_1
 have HC0_1 := Aside0.mk hc0_1
 clear hr0_1 hc0_1
 have HR0_2 := Aside0.mk hr0_2
 have HC0_2 := Aside0.mk hc0_2
 clear hr0_2 hc0_2
 have HR0_3 := Aside0.mk hr0_3
 have HC0_3 := Aside0.mk hc0_3
 clear hr0_3 hc0_3
 have HR0_5 := Aside0.mk hr0_5
 have HC0_5 := Aside0.mk hc0_5
 clear hr0_5 hc0_5
 have HR1_1 := Aside0.mk hr1_1
 have HC1_1 := Aside0.mk hc1_1
 clear hr1_1 hc1_1
 have HR1_2 := Aside0.mk hr1_2
 have HC1_2 := Aside0.mk hc1_2
 clear hr1_2 hc1_2
 have HR1_3 := Aside0.mk hr1_3
 have HC1_3 := Aside0.mk hc1_3
 clear hr1_3 hc1_3
 have HR1_5 := Aside0.mk hr1_5
 have HC1_5 := Aside0.mk hc1_5
 clear hr1_5 hc1_5
 have HB := Aside0.mk (Below.refl w.heap.size w)
 have H := h
 unfold laws_eqAbs.f at H
 clear h
 replace H := sqj H
 rcases H with ⟨c3, H⟩ | ⟨c3, H⟩
 ·have c3b0 : (a0_0 != a1_0) = true := c3
  (try (have c3b1 : decide (a0_0 = a1_0) = false := by simpa using c3))
  (try (have c3b2 : (a0_0 == a1_0) = false := by simpa using c3))
  (try (have c3b3 : ¬ (a0_0 = a1_0) := by simpa using c3))
  clear c3
  obtain rfl := Option.some.inj H
  go_enter Try.func13, Try.ntmps13
  go_wp2_with (first | ((with_reducible refine gate_dst (N := 2) rfl ?_); refine sqx 2 #[.bool a0_0, .slice A0_1 l0_1.length c0_1, .slice A0_2 l0_2.length c0_2, .slice A0_3 l0_3.length c0_3, .int .i64 a0_4, .slice A0_5 l0_5.length c0_5] 39 ?_; intro gb488 hg w4 hbox hb; have BK488 := Aside0.mk hbox; have GW488 := sqg HB hg; have GE488 := sqg HB hg; replace HB := sqs HB hb; clear hb hbox hg) | ((with_reducible refine gate_dst (N := 3) rfl ?_); refine sqx 3 #[.bool a1_0, .slice A1_1 l1_1.length c1_1, .slice A1_2 l1_2.length c1_2, .slice A1_3 l1_3.length c1_3, .int .i64 a1_4, .slice A1_5 l1_5.length c1_5] 39 ?_; intro gb489 hg w5 hbox hb; have BK489 := Aside0.mk hbox; have GW489 := sqg HB hg; have GE489 := sqg HB hg; have NB488_489 := sqn BK488 hg; have NB489_488 := sqm BK488 hg; replace BK488 := sqb BK488 hb; replace HB := sqs HB hb; clear hb hbox hg; have hnb6 := NB488_489.out; have hnc6 := NB489_488.out; obtain ⟨hcz7_0, hcz7_1, hcz7_2, hcz7_3, hcz7_4, hcz7_5, hfz7_0, hfz7_1, hfz7_2, hfz7_3, hfz7_4, hfz7_5⟩ := sqc6 BK488; obtain ⟨hcz8_0, hcz8_1, hcz8_2, hcz8_3, hcz8_4, hcz8_5, hfz8_0, hfz8_1, hfz8_2, hfz8_3, hfz8_4, hfz8_5⟩ := sqc6 BK489))
  go_ret
  exact sqe HB
 have c3b0 : (a0_0 != a1_0) = false := by simpa using c3
 (try (have c3b1 : decide (a0_0 = a1_0) = true := by simpa using c3))
 (try (have c3b2 : (a0_0 == a1_0) = true := by simpa using c3))
 clear c3
 replace H := Option.bind_eq_some_iff.mp H
 obtain ⟨t490, A90, H⟩ := H
 try dsimp only at H
 have A9 := Aside0.mk A90
 clear A90
 rcases sqI (t490 = true) with c10 | c10
 ·replace c10 := Bool.eq_false_iff.mpr c10
  subst c10
  have H1 : (some false) = some r := by rw [if_neg (show ¬ (false = true) by decide)] at H; exact H
  clear H
  have H := H1
  clear H1
  obtain rfl := Option.some.inj H
  go_enter Try.func13, Try.ntmps13
  go_wp2_with (first | ((with_reducible refine gate_dst (N := 2) rfl ?_); refine sqx 2 #[.bool a0_0, .slice A0_1 l0_1.length c0_1, .slice A0_2 l0_2.length c0_2, .slice A0_3 l0_3.length c0_3, .int .i64 a0_4, .slice A0_5 l0_5.length c0_5] 39 ?_; intro gb488 hg w68 hbox hb; have BK488 := Aside0.mk hbox; have GW488 := sqg HB hg; have GE488 := sqg HB hg; replace HB := sqs HB hb; clear hb hbox hg) | ((with_reducible refine gate_dst (N := 3) rfl ?_); refine sqx 3 #[.bool a1_0, .slice A1_1 l1_1.length c1_1, .slice A1_2 l1_2.length c1_2, .slice A1_3 l1_3.length c1_3, .int .i64 a1_4, .slice A1_5 l1_5.length c1_5] 39 ?_; intro gb489 hg w69 hbox hb; have BK489 := Aside0.mk hbox; have GW489 := sqg HB hg; have GE489 := sqg HB hg; have NB488_489 := sqn BK488 hg; have NB489_488 := sqm BK488 hg; replace BK488 := sqb BK488 hb; replace HB := sqs HB hb; clear hb hbox hg; have hnb70 := NB488_489.out; have hnc70 := NB489_488.out; obtain ⟨hcz71_0, hcz71_1, hcz71_2, hcz71_3, hcz71_4, hcz71_5, hfz71_0, hfz71_1, hfz71_2, hfz71_3, hfz71_4, hfz71_5⟩ := sqc6 BK488; obtain ⟨hcz72_0, hcz72_1, hcz72_2, hcz72_3, hcz72_4, hcz72_5, hfz72_0, hfz72_1, hfz72_2, hfz72_3, hfz72_4, hfz72_5⟩ := sqc6 BK489) | ((with_reducible refine gate_callee (f := 34) rfl ?_); refine sqL (some 14) Try.func34 #[.slice A0_1 l0_1.length c0_1, .slice A1_1 l1_1.length c1_1] ?_; (with_reducible refine (laws_eqValS.calls k _ _ l0_1 _ _ l1_1 false _ ?side1 ?side2 ?side3 ?side4 A9.out).mono ?_); (case side1 => exact sqC (Kd.C_below HR0_1.out HB.out)); (case side2 => exact HC0_1.out); (case side3 => exact sqC (Kd.C_below HR1_1.out HB.out)); (case side4 => exact HC1_1.out); rintro e w73 ⟨rfl, hb⟩; refine ⟨_, rfl, ?_⟩; refine sqM2 BK488 BK489 hb ?_; clear BK488 BK489; intro BK488 BK489; replace HB := sqs HB hb; (try clear hb)))
  go_ret
  exact sqe HB
 subst c10
 have H1 : ((laws_eqRefValS.f k l0_2 l1_2).bind fun t491 => (if t491 = true then ((laws_eqValS.f k l0_3 l1_3).bind fun t492 => (if t492 = true then ((laws_eqGaps.f k a0_4 l0_5 a1_4 l1_5).bind fun t493 => (if t493 = true then (some true) else (some false))) else (some false))) else (some false))) = some r := by rw [if_pos rfl] at H; exact H
 clear H
 have H := H1
 clear H1
 replace H := Option.bind_eq_some_iff.mp H
 obtain ⟨t491, A110, H⟩ := H
 try dsimp only at H
 have A11 := Aside0.mk A110
 clear A110
 rcases sqI (t491 = true) with c12 | c12
 ·replace c12 := Bool.eq_false_iff.mpr c12
  subst c12
  have H1 : (some false) = some r := by rw [if_neg (show ¬ (false = true) by decide)] at H; exact H
  clear H
  have H := H1
  clear H1
  obtain rfl := Option.some.inj H
  go_enter Try.func13, Try.ntmps13
  go_wp2_with (first | ((with_reducible refine gate_dst (N := 2) rfl ?_); refine sqx 2 #[.bool a0_0, .slice A0_1 l0_1.length c0_1, .slice A0_2 l0_2.length c0_2, .slice A0_3 l0_3.length c0_3, .int .i64 a0_4, .slice A0_5 l0_5.length c0_5] 39 ?_; intro gb488 hg w59 hbox hb; have BK488 := Aside0.mk hbox; have GW488 := sqg HB hg; have GE488 := sqg HB hg; replace HB := sqs HB hb; clear hb hbox hg) | ((with_reducible refine gate_dst (N := 3) rfl ?_); refine sqx 3 #[.bool a1_0, .slice A1_1 l1_1.length c1_1, .slice A1_2 l1_2.length c1_2, .slice A1_3 l1_3.length c1_3, .int .i64 a1_4, .slice A1_5 l1_5.length c1_5] 39 ?_; intro gb489 hg w60 hbox hb; have BK489 := Aside0.mk hbox; have GW489 := sqg HB hg; have GE489 := sqg HB hg; have NB488_489 := sqn BK488 hg; have NB489_488 := sqm BK488 hg; replace BK488 := sqb BK488 hb; replace HB := sqs HB hb; clear hb hbox hg; have hnb61 := NB488_489.out; have hnc61 := NB489_488.out; obtain ⟨hcz62_0, hcz62_1, hcz62_2, hcz62_3, hcz62_4, hcz62_5, hfz62_0, hfz62_1, hfz62_2, hfz62_3, hfz62_4, hfz62_5⟩ := sqc6 BK488; obtain ⟨hcz63_0, hcz63_1, hcz63_2, hcz63_3, hcz63_4, hcz63_5, hfz63_0, hfz63_1, hfz63_2, hfz63_3, hfz63_4, hfz63_5⟩ := sqc6 BK489) | ((with_reducible refine gate_callee (f := 34) rfl ?_); refine sqL (some 14) Try.func34 #[.slice A0_1 l0_1.length c0_1, .slice A1_1 l1_1.length c1_1] ?_; (with_reducible refine (laws_eqValS.calls k _ _ l0_1 _ _ l1_1 true _ ?side1 ?side2 ?side3 ?side4 A9.out).mono ?_); (case side1 => exact sqC (Kd.C_below HR0_1.out HB.out)); (case side2 => exact HC0_1.out); (case side3 => exact sqC (Kd.C_below HR1_1.out HB.out)); (case side4 => exact HC1_1.out); rintro e w64 ⟨rfl, hb⟩; refine ⟨_, rfl, ?_⟩; refine sqM2 BK488 BK489 hb ?_; clear BK488 BK489; intro BK488 BK489; replace HB := sqs HB hb; (try clear hb); obtain ⟨hcz65_0, hcz65_1, hcz65_2, hcz65_3, hcz65_4, hcz65_5, hfz65_0, hfz65_1, hfz65_2, hfz65_3, hfz65_4, hfz65_5⟩ := sqc6 BK488; obtain ⟨hcz66_0, hcz66_1, hcz66_2, hcz66_3, hcz66_4, hcz66_5, hfz66_0, hfz66_1, hfz66_2, hfz66_3, hfz66_4, hfz66_5⟩ := sqc6 BK489) | ((with_reducible refine gate_callee (f := 35) rfl ?_); refine sqL (some 20) Try.func35 #[.slice A0_2 l0_2.length c0_2, .slice A1_2 l1_2.length c1_2] ?_; (with_reducible refine (laws_eqRefValS.calls k _ _ l0_2 _ _ l1_2 false _ ?side1 ?side2 ?side3 ?side4 A11.out).mono ?_); (case side1 => exact sqC (Kd.C_below HR0_2.out HB.out)); (case side2 => exact HC0_2.out); (case side3 => exact sqC (Kd.C_below HR1_2.out HB.out)); (case side4 => exact HC1_2.out); rintro e w67 ⟨rfl, hb⟩; refine ⟨_, rfl, ?_⟩; refine sqM2 BK488 BK489 hb ?_; clear BK488 BK489; intro BK488 BK489; replace HB := sqs HB hb; (try clear hb)))
  go_ret
  exact sqe HB
 subst c12
 have H1 : ((laws_eqValS.f k l0_3 l1_3).bind fun t492 => (if t492 = true then ((laws_eqGaps.f k a0_4 l0_5 a1_4 l1_5).bind fun t493 => (if t493 = true then (some true) else (some false))) else (some false))) = some r := by rw [if_pos rfl] at H; exact H
 clear H
 have H := H1
 clear H1
 replace H := Option.bind_eq_some_iff.mp H
 obtain ⟨t492, A130, H⟩ := H
 try dsimp only at H
 have A13 := Aside0.mk A130
 clear A130
 rcases sqI (t492 = true) with c14 | c14
 ·replace c14 := Bool.eq_false_iff.mpr c14
  subst c14
  have H1 : (some false) = some r := by rw [if_neg (show ¬ (false = true) by decide)] at H; exact H
  clear H
  have H := H1
  clear H1
  obtain rfl := Option.some.inj H
  go_enter Try.func13, Try.ntmps13
  go_wp2_with (first | ((with_reducible refine gate_dst (N := 2) rfl ?_); refine sqx 2 #[.bool a0_0, .slice A0_1 l0_1.length c0_1, .slice A0_2 l0_2.length c0_2, .slice A0_3 l0_3.length c0_3, .int .i64 a0_4, .slice A0_5 l0_5.length c0_5] 39 ?_; intro gb488 hg w47 hbox hb; have BK488 := Aside0.mk hbox; have GW488 := sqg HB hg; have GE488 := sqg HB hg; replace HB := sqs HB hb; clear hb hbox hg) | ((with_reducible refine gate_dst (N := 3) rfl ?_); refine sqx 3 #[.bool a1_0, .slice A1_1 l1_1.length c1_1, .slice A1_2 l1_2.length c1_2, .slice A1_3 l1_3.length c1_3, .int .i64 a1_4, .slice A1_5 l1_5.length c1_5] 39 ?_; intro gb489 hg w48 hbox hb; have BK489 := Aside0.mk hbox; have GW489 := sqg HB hg; have GE489 := sqg HB hg; have NB488_489 := sqn BK488 hg; have NB489_488 := sqm BK488 hg; replace BK488 := sqb BK488 hb; replace HB := sqs HB hb; clear hb hbox hg; have hnb49 := NB488_489.out; have hnc49 := NB489_488.out; obtain ⟨hcz50_0, hcz50_1, hcz50_2, hcz50_3, hcz50_4, hcz50_5, hfz50_0, hfz50_1, hfz50_2, hfz50_3, hfz50_4, hfz50_5⟩ := sqc6 BK488; obtain ⟨hcz51_0, hcz51_1, hcz51_2, hcz51_3, hcz51_4, hcz51_5, hfz51_0, hfz51_1, hfz51_2, hfz51_3, hfz51_4, hfz51_5⟩ := sqc6 BK489) | ((with_reducible refine gate_callee (f := 34) rfl ?_); refine sqL (some 14) Try.func34 #[.slice A0_1 l0_1.length c0_1, .slice A1_1 l1_1.length c1_1] ?_; (with_reducible refine (laws_eqValS.calls k _ _ l0_1 _ _ l1_1 true _ ?side1 ?side2 ?side3 ?side4 A9.out).mono ?_); (case side1 => exact sqC (Kd.C_below HR0_1.out HB.out)); (case side2 => exact HC0_1.out); (case side3 => exact sqC (Kd.C_below HR1_1.out HB.out)); (case side4 => exact HC1_1.out); rintro e w52 ⟨rfl, hb⟩; refine ⟨_, rfl, ?_⟩; refine sqM2 BK488 BK489 hb ?_; clear BK488 BK489; intro BK488 BK489; replace HB := sqs HB hb; (try clear hb); obtain ⟨hcz53_0, hcz53_1, hcz53_2, hcz53_3, hcz53_4, hcz53_5, hfz53_0, hfz53_1, hfz53_2, hfz53_3, hfz53_4, hfz53_5⟩ := sqc6 BK488; obtain ⟨hcz54_0, hcz54_1, hcz54_2, hcz54_3, hcz54_4, hcz54_5, hfz54_0, hfz54_1, hfz54_2, hfz54_3, hfz54_4, hfz54_5⟩ := sqc6 BK489) | ((with_reducible refine gate_callee (f := 35) rfl ?_); refine sqL (some 20) Try.func35 #[.slice A0_2 l0_2.length c0_2, .slice A1_2 l1_2.length c1_2] ?_; (with_reducible refine (laws_eqRefValS.calls k _ _ l0_2 _ _ l1_2 true _ ?side1 ?side2 ?side3 ?side4 A11.out).mono ?_); (case side1 => exact sqC (Kd.C_below HR0_2.out HB.out)); (case side2 => exact HC0_2.out); (case side3 => exact sqC (Kd.C_below HR1_2.out HB.out)); (case side4 => exact HC1_2.out); rintro e w55 ⟨rfl, hb⟩; refine ⟨_, rfl, ?_⟩; refine sqM2 BK488 BK489 hb ?_; clear BK488 BK489; intro BK488 BK489; replace HB := sqs HB hb; (try clear hb); obtain ⟨hcz56_0, hcz56_1, hcz56_2, hcz56_3, hcz56_4, hcz56_5, hfz56_0, hfz56_1, hfz56_2, hfz56_3, hfz56_4, hfz56_5⟩ := sqc6 BK488; obtain ⟨hcz57_0, hcz57_1, hcz57_2, hcz57_3, hcz57_4, hcz57_5, hfz57_0, hfz57_1, hfz57_2, hfz57_3, hfz57_4, hfz57_5⟩ := sqc6 BK489) | ((with_reducible refine gate_callee (f := 34) rfl ?_); refine sqL (some 26) Try.func34 #[.slice A0_3 l0_3.length c0_3, .slice A1_3 l1_3.length c1_3] ?_; (with_reducible refine (laws_eqValS.calls k _ _ l0_3 _ _ l1_3 false _ ?side1 ?side2 ?side3 ?side4 A13.out).mono ?_); (case side1 => exact sqC (Kd.C_below HR0_3.out HB.out)); (case side2 => exact HC0_3.out); (case side3 => exact sqC (Kd.C_below HR1_3.out HB.out)); (case side4 => exact HC1_3.out); rintro e w58 ⟨rfl, hb⟩; refine ⟨_, rfl, ?_⟩; refine sqM2 BK488 BK489 hb ?_; clear BK488 BK489; intro BK488 BK489; replace HB := sqs HB hb; (try clear hb)))
  go_ret
  exact sqe HB
 subst c14
 have H1 : ((laws_eqGaps.f k a0_4 l0_5 a1_4 l1_5).bind fun t493 => (if t493 = true then (some true) else (some false))) = some r := by rw [if_pos rfl] at H; exact H
 clear H
 have H := H1
 clear H1
 replace H := Option.bind_eq_some_iff.mp H
 obtain ⟨t493, A150, H⟩ := H
 try dsimp only at H
 have A15 := Aside0.mk A150
 clear A150
 by_cases c16 : t493 = true
 ·subst c16
  have H1 : (some true) = some r := by rw [if_pos rfl] at H; exact H
  clear H
  have H := H1
  clear H1
  obtain rfl := Option.some.inj H
  go_enter Try.func13, Try.ntmps13
  go_wp2_with (first | ((with_reducible refine gate_dst (N := 2) rfl ?_); refine sqx 2 #[.bool a0_0, .slice A0_1 l0_1.length c0_1, .slice A0_2 l0_2.length c0_2, .slice A0_3 l0_3.length c0_3, .int .i64 a0_4, .slice A0_5 l0_5.length c0_5] 39 ?_; intro gb488 hg w17 hbox hb; have BK488 := Aside0.mk hbox; have GW488 := sqg HB hg; have GE488 := sqg HB hg; replace HB := sqs HB hb; clear hb hbox hg) | ((with_reducible refine gate_dst (N := 3) rfl ?_); refine sqx 3 #[.bool a1_0, .slice A1_1 l1_1.length c1_1, .slice A1_2 l1_2.length c1_2, .slice A1_3 l1_3.length c1_3, .int .i64 a1_4, .slice A1_5 l1_5.length c1_5] 39 ?_; intro gb489 hg w18 hbox hb; have BK489 := Aside0.mk hbox; have GW489 := sqg HB hg; have GE489 := sqg HB hg; have NB488_489 := sqn BK488 hg; have NB489_488 := sqm BK488 hg; replace BK488 := sqb BK488 hb; replace HB := sqs HB hb; clear hb hbox hg; have hnb19 := NB488_489.out; have hnc19 := NB489_488.out; obtain ⟨hcz20_0, hcz20_1, hcz20_2, hcz20_3, hcz20_4, hcz20_5, hfz20_0, hfz20_1, hfz20_2, hfz20_3, hfz20_4, hfz20_5⟩ := sqc6 BK488; obtain ⟨hcz21_0, hcz21_1, hcz21_2, hcz21_3, hcz21_4, hcz21_5, hfz21_0, hfz21_1, hfz21_2, hfz21_3, hfz21_4, hfz21_5⟩ := sqc6 BK489) | ((with_reducible refine gate_callee (f := 34) rfl ?_); refine sqL (some 14) Try.func34 #[.slice A0_1 l0_1.length c0_1, .slice A1_1 l1_1.length c1_1] ?_; (with_reducible refine (laws_eqValS.calls k _ _ l0_1 _ _ l1_1 true _ ?side1 ?side2 ?side3 ?side4 A9.out).mono ?_); (case side1 => exact sqC (Kd.C_below HR0_1.out HB.out)); (case side2 => exact HC0_1.out); (case side3 => exact sqC (Kd.C_below HR1_1.out HB.out)); (case side4 => exact HC1_1.out); rintro e w22 ⟨rfl, hb⟩; refine ⟨_, rfl, ?_⟩; refine sqM2 BK488 BK489 hb ?_; clear BK488 BK489; intro BK488 BK489; replace HB := sqs HB hb; (try clear hb); obtain ⟨hcz23_0, hcz23_1, hcz23_2, hcz23_3, hcz23_4, hcz23_5, hfz23_0, hfz23_1, hfz23_2, hfz23_3, hfz23_4, hfz23_5⟩ := sqc6 BK488; obtain ⟨hcz24_0, hcz24_1, hcz24_2, hcz24_3, hcz24_4, hcz24_5, hfz24_0, hfz24_1, hfz24_2, hfz24_3, hfz24_4, hfz24_5⟩ := sqc6 BK489) | ((with_reducible refine gate_callee (f := 35) rfl ?_); refine sqL (some 20) Try.func35 #[.slice A0_2 l0_2.length c0_2, .slice A1_2 l1_2.length c1_2] ?_; (with_reducible refine (laws_eqRefValS.calls k _ _ l0_2 _ _ l1_2 true _ ?side1 ?side2 ?side3 ?side4 A11.out).mono ?_); (case side1 => exact sqC (Kd.C_below HR0_2.out HB.out)); (case side2 => exact HC0_2.out); (case side3 => exact sqC (Kd.C_below HR1_2.out HB.out)); (case side4 => exact HC1_2.out); rintro e w25 ⟨rfl, hb⟩; refine ⟨_, rfl, ?_⟩; refine sqM2 BK488 BK489 hb ?_; clear BK488 BK489; intro BK488 BK489; replace HB := sqs HB hb; (try clear hb); obtain ⟨hcz26_0, hcz26_1, hcz26_2, hcz26_3, hcz26_4, hcz26_5, hfz26_0, hfz26_1, hfz26_2, hfz26_3, hfz26_4, hfz26_5⟩ := sqc6 BK488; obtain ⟨hcz27_0, hcz27_1, hcz27_2, hcz27_3, hcz27_4, hcz27_5, hfz27_0, hfz27_1, hfz27_2, hfz27_3, hfz27_4, hfz27_5⟩ := sqc6 BK489) | ((with_reducible refine gate_callee (f := 34) rfl ?_); refine sqL (some 26) Try.func34 #[.slice A0_3 l0_3.length c0_3, .slice A1_3 l1_3.length c1_3] ?_; (with_reducible refine (laws_eqValS.calls k _ _ l0_3 _ _ l1_3 true _ ?side1 ?side2 ?side3 ?side4 A13.out).mono ?_); (case side1 => exact sqC (Kd.C_below HR0_3.out HB.out)); (case side2 => exact HC0_3.out); (case side3 => exact sqC (Kd.C_below HR1_3.out HB.out)); (case side4 => exact HC1_3.out); rintro e w28 ⟨rfl, hb⟩; refine ⟨_, rfl, ?_⟩; refine sqM2 BK488 BK489 hb ?_; clear BK488 BK489; intro BK488 BK489; replace HB := sqs HB hb; (try clear hb); obtain ⟨hcz29_0, hcz29_1, hcz29_2, hcz29_3, hcz29_4, hcz29_5, hfz29_0, hfz29_1, hfz29_2, hfz29_3, hfz29_4, hfz29_5⟩ := sqc6 BK488; obtain ⟨hcz30_0, hcz30_1, hcz30_2, hcz30_3, hcz30_4, hcz30_5, hfz30_0, hfz30_1, hfz30_2, hfz30_3, hfz30_4, hfz30_5⟩ := sqc6 BK489) | ((with_reducible refine gate_callee (f := 36) rfl ?_); refine sqL (some 32) Try.func36 #[.agg #[.int .i64 a0_4, .slice A0_5 l0_5.length c0_5], .agg #[.int .i64 a1_4, .slice A1_5 l1_5.length c1_5]] ?_; (with_reducible refine (laws_eqGaps.calls k a0_4 _ _ l0_5 a1_4 _ _ l1_5 true _ ?side1 ?side2 ?side3 ?side4 A15.out).mono ?_); (case side1 => exact sqC (Kd.C_below HR0_5.out HB.out)); (case side2 => exact HC0_5.out); (case side3 => exact sqC (Kd.C_below HR1_5.out HB.out)); (case side4 => exact HC1_5.out); rintro e w31 ⟨rfl, hb⟩; refine ⟨_, rfl, ?_⟩; refine sqM2 BK488 BK489 hb ?_; clear BK488 BK489; intro BK488 BK489; replace HB := sqs HB hb; (try clear hb)))
  go_ret
  exact sqe HB
 replace c16 := Bool.eq_false_iff.mpr c16
 subst c16
 have H1 : (some false) = some r := by rw [if_neg (show ¬ (false = true) by decide)] at H; exact H
 clear H
 have H := H1
 clear H1
 obtain rfl := Option.some.inj H
 go_enter Try.func13, Try.ntmps13
 go_wp2_with (first | ((with_reducible refine gate_dst (N := 2) rfl ?_); refine sqx 2 #[.bool a0_0, .slice A0_1 l0_1.length c0_1, .slice A0_2 l0_2.length c0_2, .slice A0_3 l0_3.length c0_3, .int .i64 a0_4, .slice A0_5 l0_5.length c0_5] 39 ?_; intro gb488 hg w32 hbox hb; have BK488 := Aside0.mk hbox; have GW488 := sqg HB hg; have GE488 := sqg HB hg; replace HB := sqs HB hb; clear hb hbox hg) | ((with_reducible refine gate_dst (N := 3) rfl ?_); refine sqx 3 #[.bool a1_0, .slice A1_1 l1_1.length c1_1, .slice A1_2 l1_2.length c1_2, .slice A1_3 l1_3.length c1_3, .int .i64 a1_4, .slice A1_5 l1_5.length c1_5] 39 ?_; intro gb489 hg w33 hbox hb; have BK489 := Aside0.mk hbox; have GW489 := sqg HB hg; have GE489 := sqg HB hg; have NB488_489 := sqn BK488 hg; have NB489_488 := sqm BK488 hg; replace BK488 := sqb BK488 hb; replace HB := sqs HB hb; clear hb hbox hg; have hnb34 := NB488_489.out; have hnc34 := NB489_488.out; obtain ⟨hcz35_0, hcz35_1, hcz35_2, hcz35_3, hcz35_4, hcz35_5, hfz35_0, hfz35_1, hfz35_2, hfz35_3, hfz35_4, hfz35_5⟩ := sqc6 BK488; obtain ⟨hcz36_0, hcz36_1, hcz36_2, hcz36_3, hcz36_4, hcz36_5, hfz36_0, hfz36_1, hfz36_2, hfz36_3, hfz36_4, hfz36_5⟩ := sqc6 BK489) | ((with_reducible refine gate_callee (f := 34) rfl ?_); refine sqL (some 14) Try.func34 #[.slice A0_1 l0_1.length c0_1, .slice A1_1 l1_1.length c1_1] ?_; (with_reducible refine (laws_eqValS.calls k _ _ l0_1 _ _ l1_1 true _ ?side1 ?side2 ?side3 ?side4 A9.out).mono ?_); (case side1 => exact sqC (Kd.C_below HR0_1.out HB.out)); (case side2 => exact HC0_1.out); (case side3 => exact sqC (Kd.C_below HR1_1.out HB.out)); (case side4 => exact HC1_1.out); rintro e w37 ⟨rfl, hb⟩; refine ⟨_, rfl, ?_⟩; refine sqM2 BK488 BK489 hb ?_; clear BK488 BK489; intro BK488 BK489; replace HB := sqs HB hb; (try clear hb); obtain ⟨hcz38_0, hcz38_1, hcz38_2, hcz38_3, hcz38_4, hcz38_5, hfz38_0, hfz38_1, hfz38_2, hfz38_3, hfz38_4, hfz38_5⟩ := sqc6 BK488; obtain ⟨hcz39_0, hcz39_1, hcz39_2, hcz39_3, hcz39_4, hcz39_5, hfz39_0, hfz39_1, hfz39_2, hfz39_3, hfz39_4, hfz39_5⟩ := sqc6 BK489) | ((with_reducible refine gate_callee (f := 35) rfl ?_); refine sqL (some 20) Try.func35 #[.slice A0_2 l0_2.length c0_2, .slice A1_2 l1_2.length c1_2] ?_; (with_reducible refine (laws_eqRefValS.calls k _ _ l0_2 _ _ l1_2 true _ ?side1 ?side2 ?side3 ?side4 A11.out).mono ?_); (case side1 => exact sqC (Kd.C_below HR0_2.out HB.out)); (case side2 => exact HC0_2.out); (case side3 => exact sqC (Kd.C_below HR1_2.out HB.out)); (case side4 => exact HC1_2.out); rintro e w40 ⟨rfl, hb⟩; refine ⟨_, rfl, ?_⟩; refine sqM2 BK488 BK489 hb ?_; clear BK488 BK489; intro BK488 BK489; replace HB := sqs HB hb; (try clear hb); obtain ⟨hcz41_0, hcz41_1, hcz41_2, hcz41_3, hcz41_4, hcz41_5, hfz41_0, hfz41_1, hfz41_2, hfz41_3, hfz41_4, hfz41_5⟩ := sqc6 BK488; obtain ⟨hcz42_0, hcz42_1, hcz42_2, hcz42_3, hcz42_4, hcz42_5, hfz42_0, hfz42_1, hfz42_2, hfz42_3, hfz42_4, hfz42_5⟩ := sqc6 BK489) | ((with_reducible refine gate_callee (f := 34) rfl ?_); refine sqL (some 26) Try.func34 #[.slice A0_3 l0_3.length c0_3, .slice A1_3 l1_3.length c1_3] ?_; (with_reducible refine (laws_eqValS.calls k _ _ l0_3 _ _ l1_3 true _ ?side1 ?side2 ?side3 ?side4 A13.out).mono ?_); (case side1 => exact sqC (Kd.C_below HR0_3.out HB.out)); (case side2 => exact HC0_3.out); (case side3 => exact sqC (Kd.C_below HR1_3.out HB.out)); (case side4 => exact HC1_3.out); rintro e w43 ⟨rfl, hb⟩; refine ⟨_, rfl, ?_⟩; refine sqM2 BK488 BK489 hb ?_; clear BK488 BK489; intro BK488 BK489; replace HB := sqs HB hb; (try clear hb); obtain ⟨hcz44_0, hcz44_1, hcz44_2, hcz44_3, hcz44_4, hcz44_5, hfz44_0, hfz44_1, hfz44_2, hfz44_3, hfz44_4, hfz44_5⟩ := sqc6 BK488; obtain ⟨hcz45_0, hcz45_1, hcz45_2, hcz45_3, hcz45_4, hcz45_5, hfz45_0, hfz45_1, hfz45_2, hfz45_3, hfz45_4, hfz45_5⟩ := sqc6 BK489) | ((with_reducible refine gate_callee (f := 36) rfl ?_); refine sqL (some 32) Try.func36 #[.agg #[.int .i64 a0_4, .slice A0_5 l0_5.length c0_5], .agg #[.int .i64 a1_4, .slice A1_5 l1_5.length c1_5]] ?_; (with_reducible refine (laws_eqGaps.calls k a0_4 _ _ l0_5 a1_4 _ _ l1_5 false _ ?side1 ?side2 ?side3 ?side4 A15.out).mono ?_); (case side1 => exact sqC (Kd.C_below HR0_5.out HB.out)); (case side2 => exact HC0_5.out); (case side3 => exact sqC (Kd.C_below HR1_5.out HB.out)); (case side4 => exact HC1_5.out); rintro e w46 ⟨rfl, hb⟩; refine ⟨_, rfl, ?_⟩; refine sqM2 BK488 BK489 hb ?_; clear BK488 BK489; intro BK488 BK489; replace HB := sqs HB hb; (try clear hb)))
 go_ret
 exact sqe HB

/-! ### laws_eqRef: function 37 -/
set_option maxHeartbeats 8000000 in
set_option maxRecDepth 100000 in
theorem laws_eqRef.calls (a0_0 : Int) (a0_1 : Int) (a1_0 : Int) (a1_1 : Int) (r : Bool) (w : World) (h : laws_eqRef.f a0_0 a0_1 a1_0 a1_1 = some r) :
  Calls Try.prog 37 #[.agg #[.int .i64 a0_0, .int .i64 a0_1], .agg #[.int .i64 a1_0, .int .i64 a1_1]] w fun e w' => e = .returned (.bool r) ∧ Below w.heap.size w w' := by
 have hu65 := Try.underlying65
 have HB := Aside0.mk (Below.refl w.heap.size w)
 have H := h
 unfold laws_eqRef.f at H
 clear h
 replace H := sqi H
 rcases H with ⟨c3, H⟩ | ⟨c3, H⟩
 ·have c3b0 : (a0_0 == a1_0) = false := beq_eq_false_iff_ne.mpr c3
  have c3b1 : (a0_0 != a1_0) = true := bne_iff_ne.mpr c3
  obtain rfl := Option.some.inj H
  go_enter Try.func37, Try.ntmps37
  go_wp2_with (first | ((with_reducible refine gate_dst (N := 2) rfl ?_); refine sqx 2 #[.int .i64 a0_0, .int .i64 a0_1] 65 ?_; intro gb494 hg w15 hbox hb; have BK494 := Aside0.mk hbox; have GW494 := sqg HB hg; have GE494 := sqg HB hg; replace HB := sqs HB hb; clear hb hbox hg) | ((with_reducible refine gate_dst (N := 3) rfl ?_); refine sqx 3 #[.int .i64 a1_0, .int .i64 a1_1] 65 ?_; intro gb495 hg w16 hbox hb; have BK495 := Aside0.mk hbox; have GW495 := sqg HB hg; have GE495 := sqg HB hg; have NB494_495 := sqn BK494 hg; have NB495_494 := sqm BK494 hg; replace BK494 := sqb BK494 hb; replace HB := sqs HB hb; clear hb hbox hg; have hnb17 := NB494_495.out; have hnc17 := NB495_494.out; obtain ⟨hcz18_0, hcz18_1, hfz18_0, hfz18_1⟩ := sqc2 BK494; obtain ⟨hcz19_0, hcz19_1, hfz19_0, hfz19_1⟩ := sqc2 BK495))
  go_ret
  exact sqe HB
 have c3b0 : (a0_0 == a1_0) = true := beq_iff_eq.mpr c3
 have c3b1 : (a0_0 != a1_0) = false := bne_eq_false_iff_eq.mpr c3
 clear c3
 replace H := sqj H
 rcases H with ⟨c4, H⟩ | ⟨c4, H⟩
 ·have c4b0 : (a0_1 == a1_1) = true := beq_iff_eq.mpr c4
  have c4b1 : (a0_1 != a1_1) = false := bne_eq_false_iff_eq.mpr c4
  clear c4
  obtain rfl := Option.some.inj H
  go_enter Try.func37, Try.ntmps37
  go_wp2_with (first | ((with_reducible refine gate_dst (N := 2) rfl ?_); refine sqx 2 #[.int .i64 a0_0, .int .i64 a0_1] 65 ?_; intro gb494 hg w5 hbox hb; have BK494 := Aside0.mk hbox; have GW494 := sqg HB hg; have GE494 := sqg HB hg; replace HB := sqs HB hb; clear hb hbox hg) | ((with_reducible refine gate_dst (N := 3) rfl ?_); refine sqx 3 #[.int .i64 a1_0, .int .i64 a1_1] 65 ?_; intro gb495 hg w6 hbox hb; have BK495 := Aside0.mk hbox; have GW495 := sqg HB hg; have GE495 := sqg HB hg; have NB494_495 := sqn BK494 hg; have NB495_494 := sqm BK494 hg; replace BK494 := sqb BK494 hb; replace HB := sqs HB hb; clear hb hbox hg; have hnb7 := NB494_495.out; have hnc7 := NB495_494.out; obtain ⟨hcz8_0, hcz8_1, hfz8_0, hfz8_1⟩ := sqc2 BK494; obtain ⟨hcz9_0, hcz9_1, hfz9_0, hfz9_1⟩ := sqc2 BK495))
  go_ret
  exact sqe HB
 have c4b0 : (a0_1 == a1_1) = false := beq_eq_false_iff_ne.mpr c4
 have c4b1 : (a0_1 != a1_1) = true := bne_iff_ne.mpr c4
 obtain rfl := Option.some.inj H
 go_enter Try.func37, Try.ntmps37
 go_wp2_with (first | ((with_reducible refine gate_dst (N := 2) rfl ?_); refine sqx 2 #[.int .i64 a0_0, .int .i64 a0_1] 65 ?_; intro gb494 hg w10 hbox hb; have BK494 := Aside0.mk hbox; have GW494 := sqg HB hg; have GE494 := sqg HB hg; replace HB := sqs HB hb; clear hb hbox hg) | ((with_reducible refine gate_dst (N := 3) rfl ?_); refine sqx 3 #[.int .i64 a1_0, .int .i64 a1_1] 65 ?_; intro gb495 hg w11 hbox hb; have BK495 := Aside0.mk hbox; have GW495 := sqg HB hg; have GE495 := sqg HB hg; have NB494_495 := sqn BK494 hg; have NB495_494 := sqm BK494 hg; replace BK494 := sqb BK494 hb; replace HB := sqs HB hb; clear hb hbox hg; have hnb12 := NB494_495.out; have hnc12 := NB495_494.out; obtain ⟨hcz13_0, hcz13_1, hfz13_0, hfz13_1⟩ := sqc2 BK494; obtain ⟨hcz14_0, hcz14_1, hfz14_0, hfz14_1⟩ := sqc2 BK495))
 go_ret
 exact sqe HB

end Go.Proofs.Ytnmgckdgmplddaa.PFnExactAbsHas
