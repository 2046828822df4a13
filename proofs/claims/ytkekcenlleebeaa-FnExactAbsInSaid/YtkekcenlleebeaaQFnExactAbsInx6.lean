/- Functions of the program as plain Lean functions, and that calls of them come to what these tell. Conditions: those in each law. -/
import Derived.Test.YtkekcenlleebeaaSq
import Derived.Test.YtkekcenlleebeaaDFnExactAbsIn
import Derived.Test.YtkekcenlleebeaaQFnExactAbsInx0
import Derived.Test.YtkekcenlleebeaaQFnExactAbsInx5
namespace Go.Proofs.Ytkekcenlleebeaa.PFnExactAbsIn
open Go.RowKit Go.Proofs.Ytkekcenlleebeaa.Sq Go.Proofs.YtkekcenlleebeaaW.PrintWords Go.Proofs.YtkekcenlleebeaaW.PrintLast Go.Proofs.YtkekcenlleebeaaW.PrintMore
attribute [local go_sem] max2_int min2_int max_two min_two max_three min_three max_four min_four   -- for this text's walks alone
set_option linter.unusedVariables false
set_option linter.unusedSimpArgs false

/-! ### laws_eqRefValS: function 147 -/
def laws_eqRefValS.T6 : Bool × List (List Nat × List Nat) := (true, [([], []), ([], []), ([0, 1], [0, 1]), ([2], [2]), ([], []), ([], []), ([4, 5], [4, 5]), ([6], [6]), ([3, 7], [3, 7]), ([8], [8])])
def laws_eqRefValS.B6 : List Nat := [0, 0, 3, 7, 0, 0, 48, 112, 255, 511]
theorem laws_eqRefValS.tab6 : rtab .any (opsOf Try.f147 6) = laws_eqRefValS.T6 := by kernel_rfl
theorem laws_eqRefValS.bits6 : waitsOk laws_eqRefValS.T6.2 laws_eqRefValS.B6 = true := by kernel_rfl
set_option maxHeartbeats 8000000 in
set_option maxRecDepth 100000 in
theorem laws_eqRefValS.calls (k : Nat) (A0 : Option Addr) (c0 : Nat) (l0 : List (S132)) (A1 : Option Addr) (c1 : Nat) (l1 : List (S132)) (r : Bool) (w : World) (hr0 : Kd.C k132 w A0 l0.length l0) (hc0 : l0.length ≤ c0) (hr1 : Kd.C k132 w A1 l1.length l1) (hc1 : l1.length ≤ c1) (h : laws_eqRefValS.f k l0 l1 = some r) :
  Calls Try.prog 147 #[.slice A0 l0.length c0, .slice A1 l1.length c1] w fun e w' => e = .returned (.bool r) ∧ Below w.heap.size w w' := by
 have hu132 := Try.underlying132
 have HR0 := Aside0.mk hr0
 have HC0 := Aside0.mk hc0
 clear hr0 hc0
 have HR1 := Aside0.mk hr1
 have HC1 := Aside0.mk hc1
 clear hr1 hc1
 have HB := Aside0.mk (Below.refl w.heap.size w)
 have H : (if (l0.length : Int) = (l1.length : Int) then (laws_eqRefValS.l0 k l0 l1 0) else (some false)) = some r := h
 clear h
 replace H := sqi H
 rcases H with ⟨c3, H⟩ | ⟨c3, H⟩
 ·have c3b0 : ((l0.length : Int) == (l1.length : Int)) = false := beq_eq_false_iff_ne.mpr c3
  have c3b1 : ((l0.length : Int) != (l1.length : Int)) = true := bne_iff_ne.mpr c3
  have c3b2 : (l0.length == l1.length) = false := by first | simpa using c3 | (simp at c3 ⊢; omega)
  obtain rfl := Option.some.inj H
  go_enter Try.func147, Try.ntmps147
  go_wp2
  go_ret
  exact sqe HB
 have c3b0 : ((l0.length : Int) == (l1.length : Int)) = true := beq_iff_eq.mpr c3
 have c3b1 : ((l0.length : Int) != (l1.length : Int)) = false := bne_eq_false_iff_eq.mpr c3
 have c3b2 : (l0.length == l1.length) = true := by first | simpa using c3 | (simp at c3 ⊢; omega)
 clear c3
 have H' := Aside0.mk H
 clear H
 go_enter Try.func147, Try.ntmps147
 go_wp2
 go_loopg [5] k (fun kq v5 w' => ∃ (x5_1 : Int), v5 = .int .i64 x5_1 ∧ Aside0 (laws_eqRefValS.l0 kq l0 l1 x5_1 = some r) ∧ Aside0 (kq ≤ k) ∧ Aside0 (Below w.heap.size w w'))
 case atStart => exact ⟨(0), (by first | rfl | (simp; done) | (simp [*]; done)), H', ⟨Nat.le_refl _⟩, sqh HB⟩
 case round =>
  clear H'
  obtain ⟨x5_1, rfl, HA, HK1, HB⟩ := hrel
  cases gk with
  | zero => exact absurd HA.out (by simp [laws_eqRefValS.l0])
  | succ k1 =>
   have H := HA.out
   clear HA
   simp only [laws_eqRefValS.l0] at H
   replace H := sqi H
   rcases H with ⟨c4, H⟩ | ⟨c4, H⟩
   ·have c4b0 := decide_eq_false c4
    clear c4
    obtain rfl := Option.some.inj H
    go_wp2
    go_ret
    exact sqe HB
   have c4b0 := decide_eq_true c4
   clear c4
   replace H := sqi H
   rcases H with ⟨c5, H⟩ | ⟨c5, H⟩
   ·exact absurd H (by simp)
   have c5b0 := decide_eq_true c5
   clear c5
   replace H := sqi H
   rcases H with ⟨c6, H⟩ | ⟨c6, H⟩
   ·exact absurd H (by simp)
   have c6b0 := decide_eq_true c6
   clear c6
   replace H := sqbi H
   obtain ⟨t187, A7, H⟩ := H
   replace H : (if t187 = true then (laws_eqRefValS.l0 k1 l0 l1 (wrap64 (x5_1 + 1))) else (some false)) = some r := H
   rcases sqI (t187 = true) with c8 | c8
   ·replace c8 := Bool.eq_false_iff.mpr c8
    subst c8
    have H1 : (some false) = some r := by rw [if_neg (show ¬ (false = true) by decide)] at H; exact H
    clear H
    have H := H1
    clear H1
    obtain rfl := Option.some.inj H
    try go_wp2
    replace HB := Aside0.mk (below_drew1 HB.out)
    have p185 : 0 ≤ (x5_1 : Int) := sqd
    have q185 : x5_1 < (l0.length : Int) := sqd
    obtain ⟨ad185, A185_1, c185_1, e185, hx185_0, hx185_1, hx185_2, hx185_3, hx185_4, hx185_5, hl185_1, hi185_1⟩ := at_T132 HR0.out x5_1 p185 q185
    have hw185_5 := hx185_5
    have hw185_4 := hx185_4
    have hw185_3 := hx185_3
    have hw185_2 := hx185_2
    have hw185_1 := hx185_1
    have hw185_0 := hx185_0
    cases e185
    replace hx185_0 := sqa HB hx185_0
    replace hx185_1 := sqa HB hx185_1
    replace hx185_2 := sqa HB hx185_2
    replace hx185_3 := sqa HB hx185_3
    replace hx185_4 := sqa HB hx185_4
    replace hx185_5 := sqa HB hx185_5
    have HR185_1 := Aside0.mk hi185_1
    have HC185_1 := Aside0.mk hl185_1
    clear hi185_1 hl185_1
    replace p185 := eq_true p185
    replace q185 := eq_true q185
    have p186 : 0 ≤ (x5_1 : Int) := sqd
    have q186 : x5_1 < (l1.length : Int) := sqd
    obtain ⟨ad186, A186_1, c186_1, e186, hx186_0, hx186_1, hx186_2, hx186_3, hx186_4, hx186_5, hl186_1, hi186_1⟩ := at_T132 HR1.out x5_1 p186 q186
    have hw186_5 := hx186_5
    have hw186_4 := hx186_4
    have hw186_3 := hx186_3
    have hw186_2 := hx186_2
    have hw186_1 := hx186_1
    have hw186_0 := hx186_0
    cases e186
    replace hx186_0 := sqa HB hx186_0
    replace hx186_1 := sqa HB hx186_1
    replace hx186_2 := sqa HB hx186_2
    replace hx186_3 := sqa HB hx186_3
    replace hx186_4 := sqa HB hx186_4
    replace hx186_5 := sqa HB hx186_5
    have HR186_1 := Aside0.mk hi186_1
    have HC186_1 := Aside0.mk hl186_1
    clear hi186_1 hl186_1
    replace p186 := eq_true p186
    replace q186 := eq_true q186
    refine start_ (n := 10) (S := fun w' => w'.cell? (ad185.add ((x5_1).toNat * 6)) = some (.bool ((rd_T132 l0 x5_1).f0)) ∧ w'.cell? ⟨(ad185.add ((x5_1).toNat * 6)).block, (ad185.add ((x5_1).toNat * 6)).off + 1, none⟩ = some (.slice A185_1 ((rd_T132 l0 x5_1).f1).length c185_1) ∧ w'.cell? ⟨(ad185.add ((x5_1).toNat * 6)).block, (ad185.add ((x5_1).toNat * 6)).off + 2, none⟩ = some (.int .i64 ((rd_T132 l0 x5_1).f2.f0)) ∧ w'.cell? ⟨(ad185.add ((x5_1).toNat * 6)).block, (ad185.add ((x5_1).toNat * 6)).off + 3, none⟩ = some (.int .i64 ((rd_T132 l0 x5_1).f2.f1)) ∧ w'.cell? ⟨(ad185.add ((x5_1).toNat * 6)).block, (ad185.add ((x5_1).toNat * 6)).off + 4, none⟩ = some (.int .i64 ((rd_T132 l0 x5_1).f2.f2)) ∧ w'.cell? ⟨(ad185.add ((x5_1).toNat * 6)).block, (ad185.add ((x5_1).toNat * 6)).off + 5, none⟩ = some (.int .i64 ((rd_T132 l0 x5_1).f2.f3)) ∧ w'.cell? (ad186.add ((x5_1).toNat * 6)) = some (.bool ((rd_T132 l1 x5_1).f0)) ∧ w'.cell? ⟨(ad186.add ((x5_1).toNat * 6)).block, (ad186.add ((x5_1).toNat * 6)).off + 1, none⟩ = some (.slice A186_1 ((rd_T132 l1 x5_1).f1).length c186_1) ∧ w'.cell? ⟨(ad186.add ((x5_1).toNat * 6)).block, (ad186.add ((x5_1).toNat * 6)).off + 2, none⟩ = some (.int .i64 ((rd_T132 l1 x5_1).f2.f0)) ∧ w'.cell? ⟨(ad186.add ((x5_1).toNat * 6)).block, (ad186.add ((x5_1).toNat * 6)).off + 3, none⟩ = some (.int .i64 ((rd_T132 l1 x5_1).f2.f1)) ∧ w'.cell? ⟨(ad186.add ((x5_1).toNat * 6)).block, (ad186.add ((x5_1).toNat * 6)).off + 4, none⟩ = some (.int .i64 ((rd_T132 l1 x5_1).f2.f2)) ∧ w'.cell? ⟨(ad186.add ((x5_1).toNat * 6)).block, (ad186.add ((x5_1).toNat * 6)).off + 5, none⟩ = some (.int .i64 ((rd_T132 l1 x5_1).f2.f3))) (ds := []) #[false, false, false, false, false, false, false, false, false, false] (by kernel_rfl) rfl rfl ⟨(sqa HB hw185_0 :), (sqa HB hw185_1 :), (sqa HB hw185_2 :), (sqa HB hw185_3 :), (sqa HB hw185_4 :), (sqa HB hw185_5 :), (sqa HB hw186_0 :), (sqa HB hw186_1 :), (sqa HB hw186_2 :), (sqa HB hw186_3 :), (sqa HB hw186_4 :), (sqa HB hw186_5 :)⟩ (fun hHeld => ?_); refine with_tabW laws_eqRefValS.tab6 laws_eqRefValS.bits6 (fun HT_ HW_ => ?_)
    generalize wr.drew = w11 at HB HR185_1 HR186_1 hx185_0 hx185_1 hx185_2 hx185_3 hx185_4 hx185_5 hx186_0 hx186_1 hx186_2 hx186_3 hx186_4 hx186_5 hHeld ⊢
    refine sqp HT_ 0 17 ?_
    refine sqp HT_ 1 18 ?_
    refine sqp HT_ 2 19 ?_
    refine sqp HT_ 4 21 ?_
    refine sqp HT_ 5 22 ?_
    refine sqp HT_ 6 23 ?_
    refine sqw HT_ HW_ 3 20 hHeld ?_
    refine sqw HT_ HW_ 7 24 hHeld ?_
    refine sqo HT_ 8 25 (fun K hK => ?_)
    refine sqG Try.func204 #[.agg #[.bool ((rd_T132 l0 x5_1).f0), .slice A185_1 ((rd_T132 l0 x5_1).f1).length c185_1, .int .i64 ((rd_T132 l0 x5_1).f2.f0), .int .i64 ((rd_T132 l0 x5_1).f2.f1), .int .i64 ((rd_T132 l0 x5_1).f2.f2), .int .i64 ((rd_T132 l0 x5_1).f2.f3)], .agg #[.bool ((rd_T132 l1 x5_1).f0), .slice A186_1 ((rd_T132 l1 x5_1).f1).length c186_1, .int .i64 ((rd_T132 l1 x5_1).f2.f0), .int .i64 ((rd_T132 l1 x5_1).f2.f1), .int .i64 ((rd_T132 l1 x5_1).f2.f2), .int .i64 ((rd_T132 l1 x5_1).f2.f3)]] ?_
    with_reducible refine (laws_eqRefVal.calls k1 ((rd_T132 l0 x5_1).f0) _ _ ((rd_T132 l0 x5_1).f1) ((rd_T132 l0 x5_1).f2.f0) ((rd_T132 l0 x5_1).f2.f1) ((rd_T132 l0 x5_1).f2.f2) ((rd_T132 l0 x5_1).f2.f3) ((rd_T132 l1 x5_1).f0) _ _ ((rd_T132 l1 x5_1).f1) ((rd_T132 l1 x5_1).f2.f0) ((rd_T132 l1 x5_1).f2.f1) ((rd_T132 l1 x5_1).f2.f2) ((rd_T132 l1 x5_1).f2.f3) false _ ?side1 ?side2 ?side3 ?side4 A7.out).mono ?_
    (case side1 => exact sqC (Kd.C_below HR185_1.out HB.out))
    (case side2 => exact HC185_1.out)
    (case side3 => exact sqC (Kd.C_below HR186_1.out HB.out))
    (case side4 => exact HC186_1.out)
    rintro e w12 ⟨rfl, hb⟩
    refine ⟨_, rfl, ?_⟩
    replace HB := sqs HB hb
    (try clear hb)
    refine hK.out _ _ ⟨(sqa HB hw185_0 :), (sqa HB hw185_1 :), (sqa HB hw185_2 :), (sqa HB hw185_3 :), (sqa HB hw185_4 :), (sqa HB hw185_5 :), (sqa HB hw186_0 :), (sqa HB hw186_1 :), (sqa HB hw186_2 :), (sqa HB hw186_3 :), (sqa HB hw186_4 :), (sqa HB hw186_5 :)⟩ (fun hHeld => ?_)
    clear hK K
    refine sqnm ?_
    refine sqp HT_ 9 26 ?_
    refine done_ (done_of HT_.out (by kernel_rfl)) ?_
    try go_wp2
    go_ret
    exact sqe HB
   subst c8
   have H1 : (laws_eqRefValS.l0 k1 l0 l1 (wrap64 (x5_1 + 1))) = some r := by rw [if_pos rfl] at H; exact H
   clear H
   have H := H1
   clear H1
   have H' := Aside0.mk H
   clear H
   try go_wp2
   replace HB := Aside0.mk (below_drew1 HB.out)
   have p185 : 0 ≤ (x5_1 : Int) := sqd
   have q185 : x5_1 < (l0.length : Int) := sqd
   obtain ⟨ad185, A185_1, c185_1, e185, hx185_0, hx185_1, hx185_2, hx185_3, hx185_4, hx185_5, hl185_1, hi185_1⟩ := at_T132 HR0.out x5_1 p185 q185
   have hw185_5 := hx185_5
   have hw185_4 := hx185_4
   have hw185_3 := hx185_3
   have hw185_2 := hx185_2
   have hw185_1 := hx185_1
   have hw185_0 := hx185_0
   cases e185
   replace hx185_0 := sqa HB hx185_0
   replace hx185_1 := sqa HB hx185_1
   replace hx185_2 := sqa HB hx185_2
   replace hx185_3 := sqa HB hx185_3
   replace hx185_4 := sqa HB hx185_4
   replace hx185_5 := sqa HB hx185_5
   have HR185_1 := Aside0.mk hi185_1
   have HC185_1 := Aside0.mk hl185_1
   clear hi185_1 hl185_1
   replace p185 := eq_true p185
   replace q185 := eq_true q185
   have p186 : 0 ≤ (x5_1 : Int) := sqd
   have q186 : x5_1 < (l1.length : Int) := sqd
   obtain ⟨ad186, A186_1, c186_1, e186, hx186_0, hx186_1, hx186_2, hx186_3, hx186_4, hx186_5, hl186_1, hi186_1⟩ := at_T132 HR1.out x5_1 p186 q186
   have hw186_5 := hx186_5
   have hw186_4 := hx186_4
   have hw186_3 := hx186_3
   have hw186_2 := hx186_2
   have hw186_1 := hx186_1
   have hw186_0 := hx186_0
   cases e186
   replace hx186_0 := sqa HB hx186_0
   replace hx186_1 := sqa HB hx186_1
   replace hx186_2 := sqa HB hx186_2
   replace hx186_3 := sqa HB hx186_3
   replace hx186_4 := sqa HB hx186_4
   replace hx186_5 := sqa HB hx186_5
   have HR186_1 := Aside0.mk hi186_1
   have HC186_1 := Aside0.mk hl186_1
   clear hi186_1 hl186_1
   replace p186 := eq_true p186
   replace q186 := eq_true q186
   refine start_ (n := 10) (S := fun w' => w'.cell? (ad185.add ((x5_1).toNat * 6)) = some (.bool ((rd_T132 l0 x5_1).f0)) ∧ w'.cell? ⟨(ad185.add ((x5_1).toNat * 6)).block, (ad185.add ((x5_1).toNat * 6)).off + 1, none⟩ = some (.slice A185_1 ((rd_T132 l0 x5_1).f1).length c185_1) ∧ w'.cell? ⟨(ad185.add ((x5_1).toNat * 6)).block, (ad185.add ((x5_1).toNat * 6)).off + 2, none⟩ = some (.int .i64 ((rd_T132 l0 x5_1).f2.f0)) ∧ w'.cell? ⟨(ad185.add ((x5_1).toNat * 6)).block, (ad185.add ((x5_1).toNat * 6)).off + 3, none⟩ = some (.int .i64 ((rd_T132 l0 x5_1).f2.f1)) ∧ w'.cell? ⟨(ad185.add ((x5_1).toNat * 6)).block, (ad185.add ((x5_1).toNat * 6)).off + 4, none⟩ = some (.int .i64 ((rd_T132 l0 x5_1).f2.f2)) ∧ w'.cell? ⟨(ad185.add ((x5_1).toNat * 6)).block, (ad185.add ((x5_1).toNat * 6)).off + 5, none⟩ = some (.int .i64 ((rd_T132 l0 x5_1).f2.f3)) ∧ w'.cell? (ad186.add ((x5_1).toNat * 6)) = some (.bool ((rd_T132 l1 x5_1).f0)) ∧ w'.cell? ⟨(ad186.add ((x5_1).toNat * 6)).block, (ad186.add ((x5_1).toNat * 6)).off + 1, none⟩ = some (.slice A186_1 ((rd_T132 l1 x5_1).f1).length c186_1) ∧ w'.cell? ⟨(ad186.add ((x5_1).toNat * 6)).block, (ad186.add ((x5_1).toNat * 6)).off + 2, none⟩ = some (.int .i64 ((rd_T132 l1 x5_1).f2.f0)) ∧ w'.cell? ⟨(ad186.add ((x5_1).toNat * 6)).block, (ad186.add ((x5_1).toNat * 6)).off + 3, none⟩ = some (.int .i64 ((rd_T132 l1 x5_1).f2.f1)) ∧ w'.cell? ⟨(ad186.add ((x5_1).toNat * 6)).block, (ad186.add ((x5_1).toNat * 6)).off + 4, none⟩ = some (.int .i64 ((rd_T132 l1 x5_1).f2.f2)) ∧ w'.cell? ⟨(ad186.add ((x5_1).toNat * 6)).block, (ad186.add ((x5_1).toNat * 6)).off + 5, none⟩ = some (.int .i64 ((rd_T132 l1 x5_1).f2.f3))) (ds := []) #[false, false, false, false, false, false, false, false, false, false] (by kernel_rfl) rfl rfl ⟨(sqa HB hw185_0 :), (sqa HB hw185_1 :), (sqa HB hw185_2 :), (sqa HB hw185_3 :), (sqa HB hw185_4 :), (sqa HB hw185_5 :), (sqa HB hw186_0 :), (sqa HB hw186_1 :), (sqa HB hw186_2 :), (sqa HB hw186_3 :), (sqa HB hw186_4 :), (sqa HB hw186_5 :)⟩ (fun hHeld => ?_); refine with_tabW laws_eqRefValS.tab6 laws_eqRefValS.bits6 (fun HT_ HW_ => ?_)
   generalize wr.drew = w9 at HB HR185_1 HR186_1 hx185_0 hx185_1 hx185_2 hx185_3 hx185_4 hx185_5 hx186_0 hx186_1 hx186_2 hx186_3 hx186_4 hx186_5 hHeld ⊢
   refine sqp HT_ 0 17 ?_
   refine sqp HT_ 1 18 ?_
   refine sqp HT_ 2 19 ?_
   refine sqp HT_ 4 21 ?_
   refine sqp HT_ 5 22 ?_
   refine sqp HT_ 6 23 ?_
   refine sqw HT_ HW_ 3 20 hHeld ?_
   refine sqw HT_ HW_ 7 24 hHeld ?_
   refine sqo HT_ 8 25 (fun K hK => ?_)
   refine sqG Try.func204 #[.agg #[.bool ((rd_T132 l0 x5_1).f0), .slice A185_1 ((rd_T132 l0 x5_1).f1).length c185_1, .int .i64 ((rd_T132 l0 x5_1).f2.f0), .int .i64 ((rd_T132 l0 x5_1).f2.f1), .int .i64 ((rd_T132 l0 x5_1).f2.f2), .int .i64 ((rd_T132 l0 x5_1).f2.f3)], .agg #[.bool ((rd_T132 l1 x5_1).f0), .slice A186_1 ((rd_T132 l1 x5_1).f1).length c186_1, .int .i64 ((rd_T132 l1 x5_1).f2.f0), .int .i64 ((rd_T132 l1 x5_1).f2.f1), .int .i64 ((rd_T132 l1 x5_1).f2.f2), .int .i64 ((rd_T132 l1 x5_1).f2.f3)]] ?_
   with_reducible refine (laws_eqRefVal.calls k1 ((rd_T132 l0 x5_1).f0) _ _ ((rd_T132 l0 x5_1).f1) ((rd_T132 l0 x5_1).f2.f0) ((rd_T132 l0 x5_1).f2.f1) ((rd_T132 l0 x5_1).f2.f2) ((rd_T132 l0 x5_1).f2.f3) ((rd_T132 l1 x5_1).f0) _ _ ((rd_T132 l1 x5_1).f1) ((rd_T132 l1 x5_1).f2.f0) ((rd_T132 l1 x5_1).f2.f1) ((rd_T132 l1 x5_1).f2.f2) ((rd_T132 l1 x5_1).f2.f3) true _ ?side1 ?side2 ?side3 ?side4 A7.out).mono ?_
   (case side1 => exact sqC (Kd.C_below HR185_1.out HB.out))
   (case side2 => exact HC185_1.out)
   (case side3 => exact sqC (Kd.C_below HR186_1.out HB.out))
   (case side4 => exact HC186_1.out)
   rintro e w10 ⟨rfl, hb⟩
   refine ⟨_, rfl, ?_⟩
   replace HB := sqs HB hb
   (try clear hb)
   refine hK.out _ _ ⟨(sqa HB hw185_0 :), (sqa HB hw185_1 :), (sqa HB hw185_2 :), (sqa HB hw185_3 :), (sqa HB hw185_4 :), (sqa HB hw185_5 :), (sqa HB hw186_0 :), (sqa HB hw186_1 :), (sqa HB hw186_2 :), (sqa HB hw186_3 :), (sqa HB hw186_4 :), (sqa HB hw186_5 :)⟩ (fun hHeld => ?_)
   clear hK K
   refine sqnm ?_
   refine sqp HT_ 9 26 ?_
   refine done_ (done_of HT_.out (by kernel_rfl)) ?_
   try go_wp2
   go_roundg k1
   case measure => have := HK1.out; omega
   case rel => exact ⟨(wrap64 (x5_1 + 1)), (by first | rfl | (simp; done) | (simp [*]; done)), H', ⟨by have := HK1.out; omega⟩, sqh HB⟩

/-! ### laws_eqGaps: function 148 -/
set_option maxHeartbeats 8000000 in
set_option maxRecDepth 100000 in
theorem laws_eqGaps.calls (k : Nat) (a0_0 : Int) (A0_1 : Option Addr) (c0_1 : Nat) (l0_1 : List Int) (a1_0 : Int) (A1_1 : Option Addr) (c1_1 : Nat) (l1_1 : List Int) (r : Bool) (w : World) (hr0_1 : Kd.C (Kd.int .i64) w A0_1 l0_1.length l0_1) (hc0_1 : l0_1.length ≤ c0_1) (hr1_1 : Kd.C (Kd.int .i64) w A1_1 l1_1.length l1_1) (hc1_1 : l1_1.length ≤ c1_1) (h : laws_eqGaps.f k a0_0 l0_1 a1_0 l1_1 = some r) :
  Calls Try.prog 148 #[.agg #[.int .i64 a0_0, .slice A0_1 l0_1.length c0_1], .agg #[.int .i64 a1_0, .slice A1_1 l1_1.length c1_1]] w fun e w' => e = .returned (.bool r) ∧ Below w.heap.size w w' := by
 have hu41 := Try.underlying41
 have HR0_1 := Aside0.mk hr0_1
 have HC0_1 := Aside0.mk hc0_1
 clear hr0_1 hc0_1
 have HR1_1 := Aside0.mk hr1_1
 have HC1_1 := Aside0.mk hc1_1
 clear hr1_1 hc1_1
 have HB := Aside0.mk (Below.refl w.heap.size w)
 have H : (if a0_0 = a1_0 then ((laws_eqIntS.f k l0_1 l1_1).bind fun t190 => (if t190 = true then (some true) else (some false))) else (some false)) = some r := h
 clear h
 replace H := sqi H
 rcases H with ⟨c3, H⟩ | ⟨c3, H⟩
 ·have c3b0 : (a0_0 == a1_0) = false := beq_eq_false_iff_ne.mpr c3
  have c3b1 : (a0_0 != a1_0) = true := bne_iff_ne.mpr c3
  obtain rfl := Option.some.inj H
  go_enter Try.func148, Try.ntmps148
  go_wp2_with (first | ((with_reducible refine gate_dst (N := 2) rfl ?_); refine sqx 2 #[.int .i64 a0_0, .slice A0_1 l0_1.length c0_1] 41 ?_; intro gb188 hg w16 hbox hb; have BK188 := Aside0.mk hbox; have GW188 := sqg HB hg; have GE188 := sqg HB hg; replace HB := sqs HB hb; clear hb hbox hg) | ((with_reducible refine gate_dst (N := 3) rfl ?_); refine sqx 3 #[.int .i64 a1_0, .slice A1_1 l1_1.length c1_1] 41 ?_; intro gb189 hg w17 hbox hb; have BK189 := Aside0.mk hbox; have GW189 := sqg HB hg; have GE189 := sqg HB hg; have NB188_189 := sqn BK188 hg; have NB189_188 := sqm BK188 hg; replace BK188 := sqb BK188 hb; replace HB := sqs HB hb; clear hb hbox hg; have hnb18 := NB188_189.out; have hnc18 := NB189_188.out; obtain ⟨hcz19_0, hcz19_1, hfz19_0, hfz19_1⟩ := sqc2 BK188; obtain ⟨hcz20_0, hcz20_1, hfz20_0, hfz20_1⟩ := sqc2 BK189))
  go_ret
  exact sqe HB
 have c3b0 : (a0_0 == a1_0) = true := beq_iff_eq.mpr c3
 have c3b1 : (a0_0 != a1_0) = false := bne_eq_false_iff_eq.mpr c3
 clear c3
 replace H := sqbi H
 obtain ⟨t190, A4, H⟩ := H
 replace H : (if t190 = true then (some true) else (some false)) = some r := H
 by_cases c5 : t190 = true
 ·subst c5
  have H1 : (some true) = some r := by rw [if_pos rfl] at H; exact H
  clear H
  have H := H1
  clear H1
  obtain rfl := Option.some.inj H
  go_enter Try.func148, Try.ntmps148
  go_wp2_with (first | ((with_reducible refine gate_dst (N := 2) rfl ?_); refine sqx 2 #[.int .i64 a0_0, .slice A0_1 l0_1.length c0_1] 41 ?_; intro gb188 hg w6 hbox hb; have BK188 := Aside0.mk hbox; have GW188 := sqg HB hg; have GE188 := sqg HB hg; replace HB := sqs HB hb; clear hb hbox hg) | ((with_reducible refine gate_dst (N := 3) rfl ?_); refine sqx 3 #[.int .i64 a1_0, .slice A1_1 l1_1.length c1_1] 41 ?_; intro gb189 hg w7 hbox hb; have BK189 := Aside0.mk hbox; have GW189 := sqg HB hg; have GE189 := sqg HB hg; have NB188_189 := sqn BK188 hg; have NB189_188 := sqm BK188 hg; replace BK188 := sqb BK188 hb; replace HB := sqs HB hb; clear hb hbox hg; have hnb8 := NB188_189.out; have hnc8 := NB189_188.out; obtain ⟨hcz9_0, hcz9_1, hfz9_0, hfz9_1⟩ := sqc2 BK188; obtain ⟨hcz10_0, hcz10_1, hfz10_0, hfz10_1⟩ := sqc2 BK189) | ((with_reducible refine gate_callee (f := 205) rfl ?_); refine sqL (some 14) Try.func205 #[.slice A0_1 l0_1.length c0_1, .slice A1_1 l1_1.length c1_1] ?_; (with_reducible refine (laws_eqIntS.calls k _ _ l0_1 _ _ l1_1 true _ ?side1 ?side2 ?side3 ?side4 A4.out).mono ?_); (case side1 => exact sqC (Kd.C_below HR0_1.out HB.out)); (case side2 => exact HC0_1.out); (case side3 => exact sqC (Kd.C_below HR1_1.out HB.out)); (case side4 => exact HC1_1.out); rintro e w' ⟨rfl, ⟨nd, rfl⟩⟩; refine ⟨_, rfl, ?_⟩))
  go_ret
  exact sqe HB
 replace c5 := Bool.eq_false_iff.mpr c5
 subst c5
 have H1 : (some false) = some r := by rw [if_neg (show ¬ (false = true) by decide)] at H; exact H
 clear H
 have H := H1
 clear H1
 obtain rfl := Option.some.inj H
 go_enter Try.func148, Try.ntmps148
 go_wp2_with (first | ((with_reducible refine gate_dst (N := 2) rfl ?_); refine sqx 2 #[.int .i64 a0_0, .slice A0_1 l0_1.length c0_1] 41 ?_; intro gb188 hg w11 hbox hb; have BK188 := Aside0.mk hbox; have GW188 := sqg HB hg; have GE188 := sqg HB hg; replace HB := sqs HB hb; clear hb hbox hg) | ((with_reducible refine gate_dst (N := 3) rfl ?_); refine sqx 3 #[.int .i64 a1_0, .slice A1_1 l1_1.length c1_1] 41 ?_; intro gb189 hg w12 hbox hb; have BK189 := Aside0.mk hbox; have GW189 := sqg HB hg; have GE189 := sqg HB hg; have NB188_189 := sqn BK188 hg; have NB189_188 := sqm BK188 hg; replace BK188 := sqb BK188 hb; replace HB := sqs HB hb; clear hb hbox hg; have hnb13 := NB188_189.out; have hnc13 := NB189_188.out; obtain ⟨hcz14_0, hcz14_1, hfz14_0, hfz14_1⟩ := sqc2 BK188; obtain ⟨hcz15_0, hcz15_1, hfz15_0, hfz15_1⟩ := sqc2 BK189) | ((with_reducible refine gate_callee (f := 205) rfl ?_); refine sqL (some 14) Try.func205 #[.slice A0_1 l0_1.length c0_1, .slice A1_1 l1_1.length c1_1] ?_; (with_reducible refine (laws_eqIntS.calls k _ _ l0_1 _ _ l1_1 false _ ?side1 ?side2 ?side3 ?side4 A4.out).mono ?_); (case side1 => exact sqC (Kd.C_below HR0_1.out HB.out)); (case side2 => exact HC0_1.out); (case side3 => exact sqC (Kd.C_below HR1_1.out HB.out)); (case side4 => exact HC1_1.out); rintro e w' ⟨rfl, ⟨nd, rfl⟩⟩; refine ⟨_, rfl, ?_⟩))
 go_ret
 exact sqe HB

/-! ### laws_eqAbs: function 61 -/
set_option maxHeartbeats 8000000 in
set_option maxRecDepth 100000 in
theorem laws_eqAbs.calls (k : Nat) (a0_0 : Bool) (A0_1 : Option Addr) (c0_1 : Nat) (l0_1 : List (S30)) (A0_2 : Option Addr) (c0_2 : Nat) (l0_2 : List (S132)) (A0_3 : Option Addr) (c0_3 : Nat) (l0_3 : List (S30)) (a0_4 : Int) (A0_5 : Option Addr) (c0_5 : Nat) (l0_5 : List Int) (a1_0 : Bool) (A1_1 : Option Addr) (c1_1 : Nat) (l1_1 : List (S30)) (A1_2 : Option Addr) (c1_2 : Nat) (l1_2 : List (S132)) (A1_3 : Option Addr) (c1_3 : Nat) (l1_3 : List (S30)) (a1_4 : Int) (A1_5 : Option Addr) (c1_5 : Nat) (l1_5 : List Int) (r : Bool) (w : World) (hr0_1 : Kd.C k30 w A0_1 l0_1.length l0_1) (hc0_1 : l0_1.length ≤ c0_1) (hr0_2 : Kd.C k132 w A0_2 l0_2.length l0_2) (hc0_2 : l0_2.length ≤ c0_2) (hr0_3 : Kd.C k30 w A0_3 l0_3.length l0_3) (hc0_3 : l0_3.length ≤ c0_3) (hr0_5 : Kd.C (Kd.int .i64) w A0_5 l0_5.length l0_5) (hc0_5 : l0_5.length ≤ c0_5) (hr1_1 : Kd.C k30 w A1_1 l1_1.length l1_1) (hc1_1 : l1_1.length ≤ c1_1) (hr1_2 : Kd.C k132 w A1_2 l1_2.length l1_2) (hc1_2 : l1_2.length ≤ c1_2) (hr1_3 : Kd.C k30 w A1_3 l1_3.length l1_3) (hc1_3 : l1_3.length ≤ c1_3) (hr1_5 : Kd.C (Kd.int .i64) w A1_5 l1_5.length l1_5) (hc1_5 : l1_5.length ≤ c1_5) (h : laws_eqAbs.f k a0_0 l0_1 l0_2 l0_3 a0_4 l0_5 a1_0 l1_1 l1_2 l1_3 a1_4 l1_5 = some r) :
  Calls Try.prog 61 #[.agg #[.bool a0_0, .slice A0_1 l0_1.length c0_1, .slice A0_2 l0_2.length c0_2, .slice A0_3 l0_3.length c0_3, .int .i64 a0_4, .slice A0_5 l0_5.length c0_5], .agg #[.bool a1_0, .slice A1_1 l1_1.length c1_1, .slice A1_2 l1_2.length c1_2, .slice A1_3 l1_3.length c1_3, .int .i64 a1_4, .slice A1_5 l1_5.length c1_5]] w fun e w' => e = .returned (.bool r) ∧ Below w.heap.size w w' := by
 have hu78 := Try.underlying78
 have hu41 := Try.underlying41
 have HR0_1 := Aside0.mk hr0_1
 have HC0_1 := Aside0.mk hc0_1
 clear hr0_1 hc0_1
 have HR0_2 := Aside0.mk hr0_2
 have HC0_2 := Aside0.mk hc0_2
 clear hr0_2 hc0_2
 have HR0_3 := Aside0.mk hr0_3
 have HC0_3 := Aside0.mk hc0_3
 clear hr0_3 hc0_3
 have HR0_5 := Aside0.mk hr0_5
 have HC0_5 := Aside0.mk hc0_5
 clear hr0_5 hc0_5
 have HR1_1 := Aside0.mk hr1_1
 have HC1_1 := Aside0.mk hc1_1
 clear hr1_1 hc1_1
 have HR1_2 := Aside0.mk hr1_2
 have HC1_2 := Aside0.mk hc1_2
 clear hr1_2 hc1_2
 have HR1_3 := Aside0.mk hr1_3
 have HC1_3 := Aside0.mk hc1_3
 clear hr1_3 hc1_3
 have HR1_5 := Aside0.mk hr1_5
 have HC1_5 := Aside0.mk hc1_5
 clear hr1_5 hc1_5
 have HB := Aside0.mk (Below.refl w.heap.size w)
 have H : (if (a0_0 != a1_0) = true then (some false) else ((laws_eqValS.f k l0_1 l1_1).bind fun t193 => (if t193 = true then ((laws_eqRefValS.f k l0_2 l1_2).bind fun t194 => (if t194 = true then ((laws_eqValS.f k l0_3 l1_3).bind fun t195 => (if t195 = true then ((laws_eqGaps.f k a0_4 l0_5 a1_4 l1_5).bind fun t196 => (if t196 = true then (some true) else (some false))) else (some false))) else (some false))) else (some false)))) = some r := h
 clear h
 replace H := sqj H
 rcases H with ⟨c3, H⟩ | ⟨c3, H⟩
 ·have c3b0 : (a0_0 != a1_0) = true := c3
  (try (have c3b1 : decide (a0_0 = a1_0) = false := by simpa using c3))
  (try (have c3b2 : (a0_0 == a1_0) = false := by simpa using c3))
  (try (have c3b3 : ¬ (a0_0 = a1_0) := by simpa using c3))
  clear c3
  obtain rfl := Option.some.inj H
  go_enter Try.func61, Try.ntmps61
  go_wp2_with (first | ((with_reducible refine gate_dst (N := 2) rfl ?_); refine sqx 2 #[.bool a0_0, .slice A0_1 l0_1.length c0_1, .slice A0_2 l0_2.length c0_2, .slice A0_3 l0_3.length c0_3, .int .i64 a0_4, .slice A0_5 l0_5.length c0_5] 78 ?_; intro gb191 hg w4 hbox hb; have BK191 := Aside0.mk hbox; have GW191 := sqg HB hg; have GE191 := sqg HB hg; replace HB := sqs HB hb; clear hb hbox hg) | ((with_reducible refine gate_dst (N := 3) rfl ?_); refine sqx 3 #[.bool a1_0, .slice A1_1 l1_1.length c1_1, .slice A1_2 l1_2.length c1_2, .slice A1_3 l1_3.length c1_3, .int .i64 a1_4, .slice A1_5 l1_5.length c1_5] 78 ?_; intro gb192 hg w5 hbox hb; have BK192 := Aside0.mk hbox; have GW192 := sqg HB hg; have GE192 := sqg HB hg; have NB191_192 := sqn BK191 hg; have NB192_191 := sqm BK191 hg; replace BK191 := sqb BK191 hb; replace HB := sqs HB hb; clear hb hbox hg; have hnb6 := NB191_192.out; have hnc6 := NB192_191.out; obtain ⟨hcz7_0, hcz7_1, hcz7_2, hcz7_3, hcz7_4, hcz7_5, hfz7_0, hfz7_1, hfz7_2, hfz7_3, hfz7_4, hfz7_5⟩ := sqc6 BK191; obtain ⟨hcz8_0, hcz8_1, hcz8_2, hcz8_3, hcz8_4, hcz8_5, hfz8_0, hfz8_1, hfz8_2, hfz8_3, hfz8_4, hfz8_5⟩ := sqc6 BK192))
  go_ret
  exact sqe HB
 have c3b0 : (a0_0 != a1_0) = false := by simpa using c3
 (try (have c3b1 : decide (a0_0 = a1_0) = true := by simpa using c3))
 (try (have c3b2 : (a0_0 == a1_0) = true := by simpa using c3))
 clear c3
 replace H := sqbi H
 obtain ⟨t193, A9, H⟩ := H
 replace H : (if t193 = true then ((laws_eqRefValS.f k l0_2 l1_2).bind fun t194 => (if t194 = true then ((laws_eqValS.f k l0_3 l1_3).bind fun t195 => (if t195 = true then ((laws_eqGaps.f k a0_4 l0_5 a1_4 l1_5).bind fun t196 => (if t196 = true then (some true) else (some false))) else (some false))) else (some false))) else (some false)) = some r := H
 rcases sqI (t193 = true) with c10 | c10
 ·replace c10 := Bool.eq_false_iff.mpr c10
  subst c10
  have H1 : (some false) = some r := by rw [if_neg (show ¬ (false = true) by decide)] at H; exact H
  clear H
  have H := H1
  clear H1
  obtain rfl := Option.some.inj H
  go_enter Try.func61, Try.ntmps61
  go_wp2_with (first | ((with_reducible refine gate_dst (N := 2) rfl ?_); refine sqx 2 #[.bool a0_0, .slice A0_1 l0_1.length c0_1, .slice A0_2 l0_2.length c0_2, .slice A0_3 l0_3.length c0_3, .int .i64 a0_4, .slice A0_5 l0_5.length c0_5] 78 ?_; intro gb191 hg w68 hbox hb; have BK191 := Aside0.mk hbox; have GW191 := sqg HB hg; have GE191 := sqg HB hg; replace HB := sqs HB hb; clear hb hbox hg) | ((with_reducible refine gate_dst (N := 3) rfl ?_); refine sqx 3 #[.bool a1_0, .slice A1_1 l1_1.length c1_1, .slice A1_2 l1_2.length c1_2, .slice A1_3 l1_3.length c1_3, .int .i64 a1_4, .slice A1_5 l1_5.length c1_5] 78 ?_; intro gb192 hg w69 hbox hb; have BK192 := Aside0.mk hbox; have GW192 := sqg HB hg; have GE192 := sqg HB hg; have NB191_192 := sqn BK191 hg; have NB192_191 := sqm BK191 hg; replace BK191 := sqb BK191 hb; replace HB := sqs HB hb; clear hb hbox hg; have hnb70 := NB191_192.out; have hnc70 := NB192_191.out; obtain ⟨hcz71_0, hcz71_1, hcz71_2, hcz71_3, hcz71_4, hcz71_5, hfz71_0, hfz71_1, hfz71_2, hfz71_3, hfz71_4, hfz71_5⟩ := sqc6 BK191; obtain ⟨hcz72_0, hcz72_1, hcz72_2, hcz72_3, hcz72_4, hcz72_5, hfz72_0, hfz72_1, hfz72_2, hfz72_3, hfz72_4, hfz72_5⟩ := sqc6 BK192) | ((with_reducible refine gate_callee (f := 146) rfl ?_); refine sqL (some 14) Try.func146 #[.slice A0_1 l0_1.length c0_1, .slice A1_1 l1_1.length c1_1] ?_; (with_reducible refine (laws_eqValS.calls k _ _ l0_1 _ _ l1_1 false _ ?side1 ?side2 ?side3 ?side4 A9.out).mono ?_); (case side1 => exact sqC (Kd.C_below HR0_1.out HB.out)); (case side2 => exact HC0_1.out); (case side3 => exact sqC (Kd.C_below HR1_1.out HB.out)); (case side4 => exact HC1_1.out); rintro e w73 ⟨rfl, hb⟩; refine ⟨_, rfl, ?_⟩; refine sqM2 BK191 BK192 hb ?_; clear BK191 BK192; intro BK191 BK192; replace HB := sqs HB hb; (try clear hb)))
  go_ret
  exact sqe HB
 subst c10
 have H1 : ((laws_eqRefValS.f k l0_2 l1_2).bind fun t194 => (if t194 = true then ((laws_eqValS.f k l0_3 l1_3).bind fun t195 => (if t195 = true then ((laws_eqGaps.f k a0_4 l0_5 a1_4 l1_5).bind fun t196 => (if t196 = true then (some true) else (some false))) else (some false))) else (some false))) = some r := by rw [if_pos rfl] at H; exact H
 clear H
 have H := H1
 clear H1
 replace H := sqbi H
 obtain ⟨t194, A11, H⟩ := H
 replace H : (if t194 = true then ((laws_eqValS.f k l0_3 l1_3).bind fun t195 => (if t195 = true then ((laws_eqGaps.f k a0_4 l0_5 a1_4 l1_5).bind fun t196 => (if t196 = true then (some true) else (some false))) else (some false))) else (some false)) = some r := H
 rcases sqI (t194 = true) with c12 | c12
 ·replace c12 := Bool.eq_false_iff.mpr c12
  subst c12
  have H1 : (some false) = some r := by rw [if_neg (show ¬ (false = true) by decide)] at H; exact H
  clear H
  have H := H1
  clear H1
  obtain rfl := Option.some.inj H
  go_enter Try.func61, Try.ntmps61
  go_wp2_with (first | ((with_reducible refine gate_dst (N := 2) rfl ?_); refine sqx 2 #[.bool a0_0, .slice A0_1 l0_1.length c0_1, .slice A0_2 l0_2.length c0_2, .slice A0_3 l0_3.length c0_3, .int .i64 a0_4, .slice A0_5 l0_5.length c0_5] 78 ?_; intro gb191 hg w59 hbox hb; have BK191 := Aside0.mk hbox; have GW191 := sqg HB hg; have GE191 := sqg HB hg; replace HB := sqs HB hb; clear hb hbox hg) | ((with_reducible refine gate_dst (N := 3) rfl ?_); refine sqx 3 #[.bool a1_0, .slice A1_1 l1_1.length c1_1, .slice A1_2 l1_2.length c1_2, .slice A1_3 l1_3.length c1_3, .int .i64 a1_4, .slice A1_5 l1_5.length c1_5] 78 ?_; intro gb192 hg w60 hbox hb; have BK192 := Aside0.mk hbox; have GW192 := sqg HB hg; have GE192 := sqg HB hg; have NB191_192 := sqn BK191 hg; have NB192_191 := sqm BK191 hg; replace BK191 := sqb BK191 hb; replace HB := sqs HB hb; clear hb hbox hg; have hnb61 := NB191_192.out; have hnc61 := NB192_191.out; obtain ⟨hcz62_0, hcz62_1, hcz62_2, hcz62_3, hcz62_4, hcz62_5, hfz62_0, hfz62_1, hfz62_2, hfz62_3, hfz62_4, hfz62_5⟩ := sqc6 BK191; obtain ⟨hcz63_0, hcz63_1, hcz63_2, hcz63_3, hcz63_4, hcz63_5, hfz63_0, hfz63_1, hfz63_2, hfz63_3, hfz63_4, hfz63_5⟩ := sqc6 BK192) | ((with_reducible refine gate_callee (f := 146) rfl ?_); refine sqL (some 14) Try.func146 #[.slice A0_1 l0_1.length c0_1, .slice A1_1 l1_1.length c1_1] ?_; (with_reducible refine (laws_eqValS.calls k _ _ l0_1 _ _ l1_1 true _ ?side1 ?side2 ?side3 ?side4 A9.out).mono ?_); (case side1 => exact sqC (Kd.C_below HR0_1.out HB.out)); (case side2 => exact HC0_1.out); (case side3 => exact sqC (Kd.C_below HR1_1.out HB.out)); (case side4 => exact HC1_1.out); rintro e w64 ⟨rfl, hb⟩; refine ⟨_, rfl, ?_⟩; refine sqM2 BK191 BK192 hb ?_; clear BK191 BK192; intro BK191 BK192; replace HB := sqs HB hb; (try clear hb); obtain ⟨hcz65_0, hcz65_1, hcz65_2, hcz65_3, hcz65_4, hcz65_5, hfz65_0, hfz65_1, hfz65_2, hfz65_3, hfz65_4, hfz65_5⟩ := sqc6 BK191; obtain ⟨hcz66_0, hcz66_1, hcz66_2, hcz66_3, hcz66_4, hcz66_5, hfz66_0, hfz66_1, hfz66_2, hfz66_3, hfz66_4, hfz66_5⟩ := sqc6 BK192) | ((with_reducible refine gate_callee (f := 147) rfl ?_); refine sqL (some 20) Try.func147 #[.slice A0_2 l0_2.length c0_2, .slice A1_2 l1_2.length c1_2] ?_; (with_reducible refine (laws_eqRefValS.calls k _ _ l0_2 _ _ l1_2 false _ ?side1 ?side2 ?side3 ?side4 A11.out).mono ?_); (case side1 => exact sqC (Kd.C_below HR0_2.out HB.out)); (case side2 => exact HC0_2.out); (case side3 => exact sqC (Kd.C_below HR1_2.out HB.out)); (case side4 => exact HC1_2.out); rintro e w67 ⟨rfl, hb⟩; refine ⟨_, rfl, ?_⟩; refine sqM2 BK191 BK192 hb ?_; clear BK191 BK192; intro BK191 BK192; replace HB := sqs HB hb; (try clear hb)))
  go_ret
  exact sqe HB
 subst c12
 have H1 : ((laws_eqValS.f k l0_3 l1_3).bind fun t195 => (if t195 = true then ((laws_eqGaps.f k a0_4 l0_5 a1_4 l1_5).bind fun t196 => (if t196 = true then (some true) else (some false))) else (some false))) = some r := by rw [if_pos rfl] at H; exact H
 clear H
 have H := H1
 clear H1
 replace H := sqbi H
 obtain ⟨t195, A13, H⟩ := H
 replace H : (if t195 = true then ((laws_eqGaps.f k a0_4 l0_5 a1_4 l1_5).bind fun t196 => (if t196 = true then (some true) else (some false))) else (some false)) = some r := H
 rcases sqI (t195 = true) with c14 | c14
 ·replace c14 := Bool.eq_false_iff.mpr c14
  subst c14
  have H1 : (some false) = some r := by rw [if_neg (show ¬ (false = true) by decide)] at H; exact H
  clear H
  have H := H1
  clear H1
  obtain rfl := Option.some.inj H
  go_enter Try.func61, Try.ntmps61
  go_wp2_with (first | ((with_reducible refine gate_dst (N := 2) rfl ?_); refine sqx 2 #[.bool a0_0, .slice A0_1 l0_1.length c0_1, .slice A0_2 l0_2.length c0_2, .slice A0_3 l0_3.length c0_3, .int .i64 a0_4, .slice A0_5 l0_5.length c0_5] 78 ?_; intro gb191 hg w47 hbox hb; have BK191 := Aside0.mk hbox; have GW191 := sqg HB hg; have GE191 := sqg HB hg; replace HB := sqs HB hb; clear hb hbox hg) | ((with_reducible refine gate_dst (N := 3) rfl ?_); refine sqx 3 #[.bool a1_0, .slice A1_1 l1_1.length c1_1, .slice A1_2 l1_2.length c1_2, .slice A1_3 l1_3.length c1_3, .int .i64 a1_4, .slice A1_5 l1_5.length c1_5] 78 ?_; intro gb192 hg w48 hbox hb; have BK192 := Aside0.mk hbox; have GW192 := sqg HB hg; have GE192 := sqg HB hg; have NB191_192 := sqn BK191 hg; have NB192_191 := sqm BK191 hg; replace BK191 := sqb BK191 hb; replace HB := sqs HB hb; clear hb hbox hg; have hnb49 := NB191_192.out; have hnc49 := NB192_191.out; obtain ⟨hcz50_0, hcz50_1, hcz50_2, hcz50_3, hcz50_4, hcz50_5, hfz50_0, hfz50_1, hfz50_2, hfz50_3, hfz50_4, hfz50_5⟩ := sqc6 BK191; obtain ⟨hcz51_0, hcz51_1, hcz51_2, hcz51_3, hcz51_4, hcz51_5, hfz51_0, hfz51_1, hfz51_2, hfz51_3, hfz51_4, hfz51_5⟩ := sqc6 BK192) | ((with_reducible refine gate_callee (f := 146) rfl ?_); refine sqL (some 14) Try.func146 #[.slice A0_1 l0_1.length c0_1, .slice A1_1 l1_1.length c1_1] ?_; (with_reducible refine (laws_eqValS.calls k _ _ l0_1 _ _ l1_1 true _ ?side1 ?side2 ?side3 ?side4 A9.out).mono ?_); (case side1 => exact sqC (Kd.C_below HR0_1.out HB.out)); (case side2 => exact HC0_1.out); (case side3 => exact sqC (Kd.C_below HR1_1.out HB.out)); (case side4 => exact HC1_1.out); rintro e w52 ⟨rfl, hb⟩; refine ⟨_, rfl, ?_⟩; refine sqM2 BK191 BK192 hb ?_; clear BK191 BK192; intro BK191 BK192; replace HB := sqs HB hb; (try clear hb); obtain ⟨hcz53_0, hcz53_1, hcz53_2, hcz53_3, hcz53_4, hcz53_5, hfz53_0, hfz53_1, hfz53_2, hfz53_3, hfz53_4, hfz53_5⟩ := sqc6 BK191; obtain ⟨hcz54_0, hcz54_1, hcz54_2, hcz54_3, hcz54_4, hcz54_5, hfz54_0, hfz54_1, hfz54_2, hfz54_3, hfz54_4, hfz54_5⟩ := sqc6 BK192) | ((with_reducible refine gate_callee (f := 147) rfl ?_); refine sqL (some 20) Try.func147 #[.slice A0_2 l0_2.length c0_2, .slice A1_2 l1_2.length c1_2] ?_; (with_reducible refine (laws_eqRefValS.calls k _ _ l0_2 _ _ l1_2 true _ ?side1 ?side2 ?side3 ?side4 A11.out).mono ?_); (case side1 => exact sqC (Kd.C_below HR0_2.out HB.out)); (case side2 => exact HC0_2.out); (case side3 => exact sqC (Kd.C_below HR1_2.out HB.out)); (case side4 => exact HC1_2.out); rintro e w55 ⟨rfl, hb⟩; refine ⟨_, rfl, ?_⟩; refine sqM2 BK191 BK192 hb ?_; clear BK191 BK192; intro BK191 BK192; replace HB := sqs HB hb; (try clear hb); obtain ⟨hcz56_0, hcz56_1, hcz56_2, hcz56_3, hcz56_4, hcz56_5, hfz56_0, hfz56_1, hfz56_2, hfz56_3, hfz56_4, hfz56_5⟩ := sqc6 BK191; obtain ⟨hcz57_0, hcz57_1, hcz57_2, hcz57_3, hcz57_4, hcz57_5, hfz57_0, hfz57_1, hfz57_2, hfz57_3, hfz57_4, hfz57_5⟩ := sqc6 BK192) | ((with_reducible refine gate_callee (f := 146) rfl ?_); refine sqL (some 26) Try.func146 #[.slice A0_3 l0_3.length c0_3, .slice A1_3 l1_3.length c1_3] ?_; (with_reducible refine (laws_eqValS.calls k _ _ l0_3 _ _ l1_3 false _ ?side1 ?side2 ?side3 ?side4 A13.out).mono ?_); (case side1 => exact sqC (Kd.C_below HR0_3.out HB.out)); (case side2 => exact HC0_3.out); (case side3 => exact sqC (Kd.C_below HR1_3.out HB.out)); (case side4 => exact HC1_3.out); rintro e w58 ⟨rfl, hb⟩; refine ⟨_, rfl, ?_⟩; refine sqM2 BK191 BK192 hb ?_; clear BK191 BK192; intro BK191 BK192; replace HB := sqs HB hb; (try clear hb)))
  go_ret
  exact sqe HB
 subst c14
 have H1 : ((laws_eqGaps.f k a0_4 l0_5 a1_4 l1_5).bind fun t196 => (if t196 = true then (some true) else (some false))) = some r := by rw [if_pos rfl] at H; exact H
 clear H
 have H := H1
 clear H1
 replace H := sqbi H
 obtain ⟨t196, A15, H⟩ := H
 replace H : (if t196 = true then (some true) else (some false)) = some r := H
 by_cases c16 : t196 = true
 ·subst c16
  have H1 : (some true) = some r := by rw [if_pos rfl] at H; exact H
  clear H
  have H := H1
  clear H1
  obtain rfl := Option.some.inj H
  go_enter Try.func61, Try.ntmps61
  go_wp2_with (first | ((with_reducible refine gate_dst (N := 2) rfl ?_); refine sqx 2 #[.bool a0_0, .slice A0_1 l0_1.length c0_1, .slice A0_2 l0_2.length c0_2, .slice A0_3 l0_3.length c0_3, .int .i64 a0_4, .slice A0_5 l0_5.length c0_5] 78 ?_; intro gb191 hg w17 hbox hb; have BK191 := Aside0.mk hbox; have GW191 := sqg HB hg; have GE191 := sqg HB hg; replace HB := sqs HB hb; clear hb hbox hg) | ((with_reducible refine gate_dst (N := 3) rfl ?_); refine sqx 3 #[.bool a1_0, .slice A1_1 l1_1.length c1_1, .slice A1_2 l1_2.length c1_2, .slice A1_3 l1_3.length c1_3, .int .i64 a1_4, .slice A1_5 l1_5.length c1_5] 78 ?_; intro gb192 hg w18 hbox hb; have BK192 := Aside0.mk hbox; have GW192 := sqg HB hg; have GE192 := sqg HB hg; have NB191_192 := sqn BK191 hg; have NB192_191 := sqm BK191 hg; replace BK191 := sqb BK191 hb; replace HB := sqs HB hb; clear hb hbox hg; have hnb19 := NB191_192.out; have hnc19 := NB192_191.out; obtain ⟨hcz20_0, hcz20_1, hcz20_2, hcz20_3, hcz20_4, hcz20_5, hfz20_0, hfz20_1, hfz20_2, hfz20_3, hfz20_4, hfz20_5⟩ := sqc6 BK191; obtain ⟨hcz21_0, hcz21_1, hcz21_2, hcz21_3, hcz21_4, hcz21_5, hfz21_0, hfz21_1, hfz21_2, hfz21_3, hfz21_4, hfz21_5⟩ := sqc6 BK192) | ((with_reducible refine gate_callee (f := 146) rfl ?_); refine sqL (some 14) Try.func146 #[.slice A0_1 l0_1.length c0_1, .slice A1_1 l1_1.length c1_1] ?_; (with_reducible refine (laws_eqValS.calls k _ _ l0_1 _ _ l1_1 true _ ?side1 ?side2 ?side3 ?side4 A9.out).mono ?_); (case side1 => exact sqC (Kd.C_below HR0_1.out HB.out)); (case side2 => exact HC0_1.out); (case side3 => exact sqC (Kd.C_below HR1_1.out HB.out)); (case side4 => exact HC1_1.out); rintro e w22 ⟨rfl, hb⟩; refine ⟨_, rfl, ?_⟩; refine sqM2 BK191 BK192 hb ?_; clear BK191 BK192; intro BK191 BK192; replace HB := sqs HB hb; (try clear hb); obtain ⟨hcz23_0, hcz23_1, hcz23_2, hcz23_3, hcz23_4, hcz23_5, hfz23_0, hfz23_1, hfz23_2, hfz23_3, hfz23_4, hfz23_5⟩ := sqc6 BK191; obtain ⟨hcz24_0, hcz24_1, hcz24_2, hcz24_3, hcz24_4, hcz24_5, hfz24_0, hfz24_1, hfz24_2, hfz24_3, hfz24_4, hfz24_5⟩ := sqc6 BK192) | ((with_reducible refine gate_callee (f := 147) rfl ?_); refine sqL (some 20) Try.func147 #[.slice A0_2 l0_2.length c0_2, .slice A1_2 l1_2.length c1_2] ?_; (with_reducible refine (laws_eqRefValS.calls k _ _ l0_2 _ _ l1_2 true _ ?side1 ?side2 ?side3 ?side4 A11.out).mono ?_); (case side1 => exact sqC (Kd.C_below HR0_2.out HB.out)); (case side2 => exact HC0_2.out); (case side3 => exact sqC (Kd.C_below HR1_2.out HB.out)); (case side4 => exact HC1_2.out); rintro e w25 ⟨rfl, hb⟩; refine ⟨_, rfl, ?_⟩; refine sqM2 BK191 BK192 hb ?_; clear BK191 BK192; intro BK191 BK192; replace HB := sqs HB hb; (try clear hb); obtain ⟨hcz26_0, hcz26_1, hcz26_2, hcz26_3, hcz26_4, hcz26_5, hfz26_0, hfz26_1, hfz26_2, hfz26_3, hfz26_4, hfz26_5⟩ := sqc6 BK191; obtain ⟨hcz27_0, hcz27_1, hcz27_2, hcz27_3, hcz27_4, hcz27_5, hfz27_0, hfz27_1, hfz27_2, hfz27_3, hfz27_4, hfz27_5⟩ := sqc6 BK192) | ((with_reducible refine gate_callee (f := 146) rfl ?_); refine sqL (some 26) Try.func146 #[.slice A0_3 l0_3.length c0_3, .slice A1_3 l1_3.length c1_3] ?_; (with_reducible refine (laws_eqValS.calls k _ _ l0_3 _ _ l1_3 true _ ?side1 ?side2 ?side3 ?side4 A13.out).mono ?_); (case side1 => exact sqC (Kd.C_below HR0_3.out HB.out)); (case side2 => exact HC0_3.out); (case side3 => exact sqC (Kd.C_below HR1_3.out HB.out)); (case side4 => exact HC1_3.out); rintro e w28 ⟨rfl, hb⟩; refine ⟨_, rfl, ?_⟩; refine sqM2 BK191 BK192 hb ?_; clear BK191 BK192; intro BK191 BK192; replace HB := sqs HB hb; (try clear hb); obtain ⟨hcz29_0, hcz29_1, hcz29_2, hcz29_3, hcz29_4, hcz29_5, hfz29_0, hfz29_1, hfz29_2, hfz29_3, hfz29_4, hfz29_5⟩ := sqc6 BK191; obtain ⟨hcz30_0, hcz30_1, hcz30_2, hcz30_3, hcz30_4, hcz30_5, hfz30_0, hfz30_1, hfz30_2, hfz30_3, hfz30_4, hfz30_5⟩ := sqc6 BK192) | ((with_reducible refine gate_callee (f := 148) rfl ?_); refine sqL (some 32) Try.func148 #[.agg #[.int .i64 a0_4, .slice A0_5 l0_5.length c0_5], .agg #[.int .i64 a1_4, .slice A1_5 l1_5.length c1_5]] ?_; (with_reducible refine (laws_eqGaps.calls k a0_4 _ _ l0_5 a1_4 _ _ l1_5 true _ ?side1 ?side2 ?side3 ?side4 A15.out).mono ?_); (case side1 => exact sqC (Kd.C_below HR0_5.out HB.out)); (case side2 => exact HC0_5.out); (case side3 => exact sqC (Kd.C_below HR1_5.out HB.out)); (case side4 => exact HC1_5.out); rintro e w31 ⟨rfl, hb⟩; refine ⟨_, rfl, ?_⟩; refine sqM2 BK191 BK192 hb ?_; clear BK191 BK192; intro BK191 BK192; replace HB := sqs HB hb; (try clear hb)))
  go_ret
  exact sqe HB
 replace c16 := Bool.eq_false_iff.mpr c16
 subst c16
 have H1 : (some false) = some r := by rw [if_neg (show ¬ (false = true) by decide)] at H; exact H
 clear H
 have H := H1
 clear H1
 obtain rfl := Option.some.inj H
 go_enter Try.func61, Try.ntmps61
 go_wp2_with (first | ((with_reducible refine gate_dst (N := 2) rfl ?_); refine sqx 2 #[.bool a0_0, .slice A0_1 l0_1.length c0_1, .slice A0_2 l0_2.length c0_2, .slice A0_3 l0_3.length c0_3, .int .i64 a0_4, .slice A0_5 l0_5.length c0_5] 78 ?_; intro gb191 hg w32 hbox hb; have BK191 := Aside0.mk hbox; have GW191 := sqg HB hg; have GE191 := sqg HB hg; replace HB := sqs HB hb; clear hb hbox hg) | ((with_reducible refine gate_dst (N := 3) rfl ?_); refine sqx 3 #[.bool a1_0, .slice A1_1 l1_1.length c1_1, .slice A1_2 l1_2.length c1_2, .slice A1_3 l1_3.length c1_3, .int .i64 a1_4, .slice A1_5 l1_5.length c1_5] 78 ?_; intro gb192 hg w33 hbox hb; have BK192 := Aside0.mk hbox; have GW192 := sqg HB hg; have GE192 := sqg HB hg; have NB191_192 := sqn BK191 hg; have NB192_191 := sqm BK191 hg; replace BK191 := sqb BK191 hb; replace HB := sqs HB hb; clear hb hbox hg; have hnb34 := NB191_192.out; have hnc34 := NB192_191.out; obtain ⟨hcz35_0, hcz35_1, hcz35_2, hcz35_3, hcz35_4, hcz35_5, hfz35_0, hfz35_1, hfz35_2, hfz35_3, hfz35_4, hfz35_5⟩ := sqc6 BK191; obtain ⟨hcz36_0, hcz36_1, hcz36_2, hcz36_3, hcz36_4, hcz36_5, hfz36_0, hfz36_1, hfz36_2, hfz36_3, hfz36_4, hfz36_5⟩ := sqc6 BK192) | ((with_reducible refine gate_callee (f := 146) rfl ?_); refine sqL (some 14) Try.func146 #[.slice A0_1 l0_1.length c0_1, .slice A1_1 l1_1.length c1_1] ?_; (with_reducible refine (laws_eqValS.calls k _ _ l0_1 _ _ l1_1 true _ ?side1 ?side2 ?side3 ?side4 A9.out).mono ?_); (case side1 => exact sqC (Kd.C_below HR0_1.out HB.out)); (case side2 => exact HC0_1.out); (case side3 => exact sqC (Kd.C_below HR1_1.out HB.out)); (case side4 => exact HC1_1.out); rintro e w37 ⟨rfl, hb⟩; refine ⟨_, rfl, ?_⟩; refine sqM2 BK191 BK192 hb ?_; clear BK191 BK192; intro BK191 BK192; replace HB := sqs HB hb; (try clear hb); obtain ⟨hcz38_0, hcz38_1, hcz38_2, hcz38_3, hcz38_4, hcz38_5, hfz38_0, hfz38_1, hfz38_2, hfz38_3, hfz38_4, hfz38_5⟩ := sqc6 BK191; obtain ⟨hcz39_0, hcz39_1, hcz39_2, hcz39_3, hcz39_4, hcz39_5, hfz39_0, hfz39_1, hfz39_2, hfz39_3, hfz39_4, hfz39_5⟩ := sqc6 BK192) | ((with_reducible refine gate_callee (f := 147) rfl ?_); refine sqL (some 20) Try.func147 #[.slice A0_2 l0_2.length c0_2, .slice A1_2 l1_2.length c1_2] ?_; (with_reducible refine (laws_eqRefValS.calls k _ _ l0_2 _ _ l1_2 true _ ?side1 ?side2 ?side3 ?side4 A11.out).mono ?_); (case side1 => exact sqC (Kd.C_below HR0_2.out HB.out)); (case side2 => exact HC0_2.out); (case side3 => exact sqC (Kd.C_below HR1_2.out HB.out)); (case side4 => exact HC1_2.out); rintro e w40 ⟨rfl, hb⟩; refine ⟨_, rfl, ?_⟩; refine sqM2 BK191 BK192 hb ?_; clear BK191 BK192; intro BK191 BK192; replace HB := sqs HB hb; (try clear hb); obtain ⟨hcz41_0, hcz41_1, hcz41_2, hcz41_3, hcz41_4, hcz41_5, hfz41_0, hfz41_1, hfz41_2, hfz41_3, hfz41_4, hfz41_5⟩ := sqc6 BK191; obtain ⟨hcz42_0, hcz42_1, hcz42_2, hcz42_3, hcz42_4, hcz42_5, hfz42_0, hfz42_1, hfz42_2, hfz42_3, hfz42_4, hfz42_5⟩ := sqc6 BK192) | ((with_reducible refine gate_callee (f := 146) rfl ?_); refine sqL (some 26) Try.func146 #[.slice A0_3 l0_3.length c0_3, .slice A1_3 l1_3.length c1_3] ?_; (with_reducible refine (laws_eqValS.calls k _ _ l0_3 _ _ l1_3 true _ ?side1 ?side2 ?side3 ?side4 A13.out).mono ?_); (case side1 => exact sqC (Kd.C_below HR0_3.out HB.out)); (case side2 => exact HC0_3.out); (case side3 => exact sqC (Kd.C_below HR1_3.out HB.out)); (case side4 => exact HC1_3.out); rintro e w43 ⟨rfl, hb⟩; refine ⟨_, rfl, ?_⟩; refine sqM2 BK191 BK192 hb ?_; clear BK191 BK192; intro BK191 BK192; replace HB := sqs HB hb; (try clear hb); obtain ⟨hcz44_0, hcz44_1, hcz44_2, hcz44_3, hcz44_4, hcz44_5, hfz44_0, hfz44_1, hfz44_2, hfz44_3, hfz44_4, hfz44_5⟩ := sqc6 BK191; obtain ⟨hcz45_0, hcz45_1, hcz45_2, hcz45_3, hcz45_4, hcz45_5, hfz45_0, hfz45_1, hfz45_2, hfz45_3, hfz45_4, hfz45_5⟩ := sqc6 BK192) | ((with_reducible refine gate_callee (f := 148) rfl ?_); refine sqL (some 32) Try.func148 #[.agg #[.int .i64 a0_4, .slice A0_5 l0_5.length c0_5], .agg #[.int .i64 a1_4, .slice A1_5 l1_5.length c1_5]] ?_; (with_reducible refine (laws_eqGaps.calls k a0_4 _ _ l0_5 a1_4 _ _ l1_5 false _ ?side1 ?side2 ?side3 ?side4 A15.out).mono ?_); (case side1 => exact sqC (Kd.C_below HR0_5.out HB.out)); (case side2 => exact HC0_5.out); (case side3 => exact sqC (Kd.C_below HR1_5.out HB.out)); (case side4 => exact HC1_5.out); rintro e w46 ⟨rfl, hb⟩; refine ⟨_, rfl, ?_⟩; refine sqM2 BK191 BK192 hb ?_; clear BK191 BK192; intro BK191 BK192; replace HB := sqs HB hb; (try clear hb)))
 go_ret
 exact sqe HB

/-! ### spec_l1In: function 105 -/
set_option maxHeartbeats 8000000 in
set_option maxRecDepth 100000 in
theorem spec_l1In.calls (a0 : Int) (a1 : Int) (a2 : Int) (r : Bool) (w : World) (h : spec_l1In.f a0 a1 a2 = some r) :
  Calls Try.prog 105 #[.int .i64 a0, .int .i64 a1, .int .i64 a2] w fun e w' => e = .returned (.bool r) ∧ Drawn0 w w' := by
 have H : (if a0 ≥ a1 then (some (decide (a0 ≤ a2))) else (some false)) = some r := h
 clear h
 replace H := sqj H
 rcases H with ⟨c4, H⟩ | ⟨c4, H⟩
 ·have c4b0 : decide (a1 ≤ a0) = true := decide_eq_true c4
  clear c4
  obtain rfl := Option.some.inj H
  go_enter Try.func105, Try.ntmps105
  go_wp2
  go_ret
  exact ⟨by first | rfl | (simp; done) | (simp [*]; done), by repeat (first | exact Drawn0.refl _ | apply Drawn0.step)⟩
 have c4b0 : decide (a1 ≤ a0) = false := decide_eq_false c4
 clear c4
 obtain rfl := Option.some.inj H
 go_enter Try.func105, Try.ntmps105
 go_wp2
 go_ret
 exact ⟨by first | rfl | (simp; done) | (simp [*]; done), by repeat (first | exact Drawn0.refl _ | apply Drawn0.step)⟩

/-! ### spec_l11At: function 115 -/
set_option maxHeartbeats 8000000 in
set_option maxRecDepth 100000 in
theorem spec_l11At.calls (a0_0 : Int) (A0_1 : Option Addr) (c0_1 : Nat) (l0_1 : List Int) (a1 : Int) (a2 : Int) (r : Int) (w : World) (hr0_1 : Kd.C (Kd.int .i64) w A0_1 l0_1.length l0_1) (hc0_1 : l0_1.length ≤ c0_1) (h : spec_l11At.f a0_0 l0_1 a1 a2 = some r) :
  Calls Try.prog 115 #[.agg #[.int .i64 a0_0, .slice A0_1 l0_1.length c0_1], .int .i64 a1, .int .i64 a2] w fun e w' => e = .returned (.int .i64 r) ∧ Below w.heap.size w w' := by
 have hu41 := Try.underlying41
 have HR0_1 := Aside0.mk hr0_1
 have HC0_1 := Aside0.mk hc0_1
 clear hr0_1 hc0_1
 have HB := Aside0.mk (Below.refl w.heap.size w)
 have H : (if 0 ≤ (wrap64 ((wrap64 (a1 * (wrap64 (a0_0 + 1)))) + a2)) then (if (wrap64 ((wrap64 (a1 * (wrap64 (a0_0 + 1)))) + a2)) < (l0_1.length : Int) then (some (rd l0_1 (wrap64 ((wrap64 (a1 * (wrap64 (a0_0 + 1)))) + a2)))) else (none)) else (none)) = some r := h
 clear h
 obtain ⟨ji4, hji4⟩ : ∃ j_ : Int, (wrap64 ((wrap64 (a1 * (wrap64 (a0_0 + 1)))) + a2)) = j_ := ⟨_, rfl⟩
 replace H : (if 0 ≤ (ji4) then (if (ji4) < (l0_1.length : Int) then (some (rd l0_1 (ji4))) else (none)) else (none)) = some r := by first | (rw [hji4] at H; exact H) | (simp only [hji4] at H ⊢; exact H)
 have hji4w : (IntKind.i64.wrap ((wrap64 (a1 * (wrap64 (a0_0 + 1)))) + a2)) = ji4 := (i64_w _).trans hji4
 replace H := sqi H
 rcases H with ⟨c5, H⟩ | ⟨c5, H⟩
 ·exact absurd H (by simp)
 have c5b0 := decide_eq_true c5
 clear c5
 replace H := sqi H
 rcases H with ⟨c6, H⟩ | ⟨c6, H⟩
 ·exact absurd H (by simp)
 have c6b0 := decide_eq_true c6
 clear c6
 obtain rfl := Option.some.inj H
 go_enter Try.func115, Try.ntmps115
 go_wp2_with (first | ((with_reducible refine gate_dst (N := 3) rfl ?_); refine sqx 3 #[.int .i64 a0_0, .slice A0_1 l0_1.length c0_1] 41 ?_; intro gb197 hg w7 hbox hb; have BK197 := Aside0.mk hbox; have GW197 := sqg HB hg; have GE197 := sqg HB hg; replace HB := sqs HB hb; clear hb hbox hg; obtain ⟨hcz8_0, hcz8_1, hfz8_0, hfz8_1⟩ := sqc2 BK197; have p198 : 0 ≤ ((ji4) : Int) := sqd; have q198 : (ji4) < (l0_1.length : Int) := sqd; obtain ⟨ad198, e198, hx198_0⟩ := Kd.at_int HR0_1.out (ji4) p198 q198; cases e198; replace hx198_0 := sqa HB hx198_0; replace p198 := eq_true p198; replace q198 := eq_true q198))
 go_ret
 exact ⟨by first | rfl | (simp [errW_none, errW_some] <;> rfl) | (simp only [← hji4]; first | rfl | (simp [errW_none, errW_some] <;> rfl)) | (simp [*, errW_none, errW_some] <;> rfl), by repeat (first | (with_reducible first | exact HB.out | apply below_alloc | apply pw_below_drewN | apply below_drew1 | refine below_set ?_ GE197.out) | exact HB.out)⟩

end Go.Proofs.Ytkekcenlleebeaa.PFnExactAbsIn
