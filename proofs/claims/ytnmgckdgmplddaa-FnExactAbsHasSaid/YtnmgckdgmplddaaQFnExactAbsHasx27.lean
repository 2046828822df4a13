/- Functions of the program as plain Lean functions, and that calls of them come to what these tell. Conditions: those in each law. -/
import Derived.Test.YtnmgckdgmplddaaSq
import Derived.Test.YtnmgckdgmplddaaDFnExactAbsHas
import Derived.Test.YtnmgckdgmplddaaQFnExactAbsHasx0
import Derived.Test.YtnmgckdgmplddaaQFnExactAbsHasx25
import Derived.Test.YtnmgckdgmplddaaQFnExactAbsHasx26
namespace Go.Proofs.Ytnmgckdgmplddaa.PFnExactAbsHas
open Go.RowKit Go.Proofs.Ytnmgckdgmplddaa.Sq Go.Proofs.YtnmgckdgmplddaaW.PrintWords Go.Proofs.YtnmgckdgmplddaaW.PrintLast Go.Proofs.YtnmgckdgmplddaaW.PrintMore
attribute [local go_sem] max2_int min2_int max_two min_two max_three min_three max_four min_four   -- for this text's walks alone
set_option linter.unusedVariables false
set_option linter.unusedSimpArgs false

/-! ### laws_eqRefS: function 15 -/
def laws_eqRefS.T6 : Bool × List (List Nat × List Nat) := (true, [([], []), ([], []), ([0, 1], [0, 1]), ([2], [2]), ([], []), ([], []), ([4, 5], [4, 5]), ([6], [6]), ([3, 7], [3, 7]), ([8], [8])])
def laws_eqRefS.B6 : List Nat := [0, 0, 3, 7, 0, 0, 48, 112, 255, 511]
theorem laws_eqRefS.tab6 : rtab .any (opsOf Try.f15 6) = laws_eqRefS.T6 := by kernel_rfl
theorem laws_eqRefS.bits6 : waitsOk laws_eqRefS.T6.2 laws_eqRefS.B6 = true := by kernel_rfl
set_option maxHeartbeats 8000000 in
set_option maxRecDepth 100000 in
theorem laws_eqRefS.calls (k : Nat) (A0 : Option Addr) (c0 : Nat) (l0 : List (S65)) (A1 : Option Addr) (c1 : Nat) (l1 : List (S65)) (r : Bool) (w : World) (hr0 : Kd.C k65 w A0 l0.length l0) (hc0 : l0.length ≤ c0) (hr1 : Kd.C k65 w A1 l1.length l1) (hc1 : l1.length ≤ c1) (h : laws_eqRefS.f k l0 l1 = some r) :
  Calls Try.prog 15 #[.slice A0 l0.length c0, .slice A1 l1.length c1] w fun e w' => e = .returned (.bool r) ∧ Below w.heap.size w w' := by
 have hu65 := Try.underlying65
 have HR0 := Aside0.mk hr0
 have HC0 := Aside0.mk hc0
 clear hr0 hc0
 have HR1 := Aside0.mk hr1
 have HC1 := Aside0.mk hc1
 clear hr1 hc1
 have HB := Aside0.mk (Below.refl w.heap.size w)
 have H := h
 unfold laws_eqRefS.f at H
 clear h
 replace H := sqi H
 rcases H with ⟨c3, H⟩ | ⟨c3, H⟩
 ·have c3b0 : ((l0.length : Int) == (l1.length : Int)) = false := beq_eq_false_iff_ne.mpr c3
  have c3b1 : ((l0.length : Int) != (l1.length : Int)) = true := bne_iff_ne.mpr c3
  have c3b2 : (l0.length == l1.length) = false := by first | simpa using c3 | (simp at c3 ⊢; omega)
  obtain rfl := Option.some.inj H
  go_enter Try.func15, Try.ntmps15
  go_wp2
  go_ret
  exact sqe HB
 have c3b0 : ((l0.length : Int) == (l1.length : Int)) = true := beq_iff_eq.mpr c3
 have c3b1 : ((l0.length : Int) != (l1.length : Int)) = false := bne_eq_false_iff_eq.mpr c3
 have c3b2 : (l0.length == l1.length) = true := by first | simpa using c3 | (simp at c3 ⊢; omega)
 clear c3
 have H' := Aside0.mk H
 clear H
 go_enter Try.func15, Try.ntmps15
 go_wp2
 go_loopg [5] k (fun kq v5 w' => ∃ (x5_1 : Int), v5 = .int .i64 x5_1 ∧ Aside0 (laws_eqRefS.l0 kq l0 l1 x5_1 = some r) ∧ Aside0 (kq ≤ k) ∧ Aside0 (Below w.heap.size w w'))
 case atStart => exact ⟨(0), (by first | rfl | (simp; done) | (simp [*]; done)), H', ⟨Nat.le_refl _⟩, sqh HB⟩
 case round =>
  clear H'
  obtain ⟨x5_1, rfl, HA, HK1, HB⟩ := hrel
  cases gk with
  | zero => exact absurd HA.out (by simp [laws_eqRefS.l0])
  | succ k1 =>
   have H := HA.out
   clear HA
   simp only [laws_eqRefS.l0] at H
   replace H := sqi H
   rcases H with ⟨c4, H⟩ | ⟨c4, H⟩
   ·have c4b0 := decide_eq_false c4
    clear c4
    obtain rfl := Option.some.inj H
    go_wp2
    go_ret
    exact sqe HB
   have c4b0 := decide_eq_true c4
   clear c4
   replace H := sqi H
   rcases H with ⟨c5, H⟩ | ⟨c5, H⟩
   ·exact absurd H (by simp)
   have c5b0 := decide_eq_true c5
   clear c5
   replace H := sqi H
   rcases H with ⟨c6, H⟩ | ⟨c6, H⟩
   ·exact absurd H (by simp)
   have c6b0 := decide_eq_true c6
   clear c6
   replace H := Option.bind_eq_some_iff.mp H
   obtain ⟨t498, A70, H⟩ := H
   try dsimp only at H
   have A7 := Aside0.mk A70
   clear A70
   rcases sqI (t498 = true) with c8 | c8
   ·replace c8 := Bool.eq_false_iff.mpr c8
    subst c8
    have H1 : (some false) = some r := by rw [if_neg (show ¬ (false = true) by decide)] at H; exact H
    clear H
    have H := H1
    clear H1
    obtain rfl := Option.some.inj H
    try go_wp2
    replace HB := Aside0.mk (below_drew1 HB.out)
    have p496 : 0 ≤ (x5_1 : Int) := sqd
    have q496 : x5_1 < (l0.length : Int) := sqd
    obtain ⟨ad496, e496, hx496_0, hx496_1⟩ := at_T65 HR0.out x5_1 p496 q496
    have hw496_1 := hx496_1
    have hw496_0 := hx496_0
    cases e496
    replace hx496_0 := sqa HB hx496_0
    replace hx496_1 := sqa HB hx496_1
    replace p496 := eq_true p496
    replace q496 := eq_true q496
    have p497 : 0 ≤ (x5_1 : Int) := sqd
    have q497 : x5_1 < (l1.length : Int) := sqd
    obtain ⟨ad497, e497, hx497_0, hx497_1⟩ := at_T65 HR1.out x5_1 p497 q497
    have hw497_1 := hx497_1
    have hw497_0 := hx497_0
    cases e497
    replace hx497_0 := sqa HB hx497_0
    replace hx497_1 := sqa HB hx497_1
    replace p497 := eq_true p497
    replace q497 := eq_true q497
    refine start_ (n := 10) (S := fun w' => w'.cell? (ad496.add ((x5_1).toNat * 2)) = some (.int .i64 ((rd_T65 l0 x5_1).f0)) ∧ w'.cell? ⟨(ad496.add ((x5_1).toNat * 2)).block, (ad496.add ((x5_1).toNat * 2)).off + 1, none⟩ = some (.int .i64 ((rd_T65 l0 x5_1).f1)) ∧ w'.cell? (ad497.add ((x5_1).toNat * 2)) = some (.int .i64 ((rd_T65 l1 x5_1).f0)) ∧ w'.cell? ⟨(ad497.add ((x5_1).toNat * 2)).block, (ad497.add ((x5_1).toNat * 2)).off + 1, none⟩ = some (.int .i64 ((rd_T65 l1 x5_1).f1))) (ds := []) #[false, false, false, false, false, false, false, false, false, false] (by kernel_rfl) rfl rfl ⟨(sqa HB hw496_0 :), (sqa HB hw496_1 :), (sqa HB hw497_0 :), (sqa HB hw497_1 :)⟩ (fun hHeld => ?_); refine with_tabW laws_eqRefS.tab6 laws_eqRefS.bits6 (fun HT_ HW_ => ?_)
    generalize wr.drew = w11 at HB hx496_0 hx496_1 hx497_0 hx497_1 hHeld ⊢
    refine sqp HT_ 0 17 ?_
    refine sqp HT_ 1 18 ?_
    refine sqp HT_ 2 19 ?_
    refine sqp HT_ 4 21 ?_
    refine sqp HT_ 5 22 ?_
    refine sqp HT_ 6 23 ?_
    refine sqw HT_ HW_ 3 20 hHeld ?_
    refine sqw HT_ HW_ 7 24 hHeld ?_
    refine sqo HT_ 8 25 (fun K hK => ?_)
    refine sqG Try.func37 #[.agg #[.int .i64 ((rd_T65 l0 x5_1).f0), .int .i64 ((rd_T65 l0 x5_1).f1)], .agg #[.int .i64 ((rd_T65 l1 x5_1).f0), .int .i64 ((rd_T65 l1 x5_1).f1)]] ?_
    with_reducible refine (laws_eqRef.calls ((rd_T65 l0 x5_1).f0) ((rd_T65 l0 x5_1).f1) ((rd_T65 l1 x5_1).f0) ((rd_T65 l1 x5_1).f1) false _ A7.out).mono ?_
    rintro e w12 ⟨rfl, hb⟩
    refine ⟨_, rfl, ?_⟩
    replace HB := sqs HB hb
    (try clear hb)
    refine hK.out _ _ ⟨(sqa HB hw496_0 :), (sqa HB hw496_1 :), (sqa HB hw497_0 :), (sqa HB hw497_1 :)⟩ (fun hHeld => ?_)
    clear hK K
    refine sqnm ?_
    refine sqp HT_ 9 26 ?_
    refine done_ (done_of HT_.out (by kernel_rfl)) ?_
    try go_wp2
    go_ret
    exact sqe HB
   subst c8
   have H1 : (laws_eqRefS.l0 k1 l0 l1 (wrap64 (x5_1 + 1))) = some r := by rw [if_pos rfl] at H; exact H
   clear H
   have H := H1
   clear H1
   have H' := Aside0.mk H
   clear H
   try go_wp2
   replace HB := Aside0.mk (below_drew1 HB.out)
   have p496 : 0 ≤ (x5_1 : Int) := sqd
   have q496 : x5_1 < (l0.length : Int) := sqd
   obtain ⟨ad496, e496, hx496_0, hx496_1⟩ := at_T65 HR0.out x5_1 p496 q496
   have hw496_1 := hx496_1
   have hw496_0 := hx496_0
   cases e496
   replace hx496_0 := sqa HB hx496_0
   replace hx496_1 := sqa HB hx496_1
   replace p496 := eq_true p496
   replace q496 := eq_true q496
   have p497 : 0 ≤ (x5_1 : Int) := sqd
   have q497 : x5_1 < (l1.length : Int) := sqd
   obtain ⟨ad497, e497, hx497_0, hx497_1⟩ := at_T65 HR1.out x5_1 p497 q497
   have hw497_1 := hx497_1
   have hw497_0 := hx497_0
   cases e497
   replace hx497_0 := sqa HB hx497_0
   replace hx497_1 := sqa HB hx497_1
   replace p497 := eq_true p497
   replace q497 := eq_true q497
   refine start_ (n := 10) (S := fun w' => w'.cell? (ad496.add ((x5_1).toNat * 2)) = some (.int .i64 ((rd_T65 l0 x5_1).f0)) ∧ w'.cell? ⟨(ad496.add ((x5_1).toNat * 2)).block, (ad496.add ((x5_1).toNat * 2)).off + 1, none⟩ = some (.int .i64 ((rd_T65 l0 x5_1).f1)) ∧ w'.cell? (ad497.add ((x5_1).toNat * 2)) = some (.int .i64 ((rd_T65 l1 x5_1).f0)) ∧ w'.cell? ⟨(ad497.add ((x5_1).toNat * 2)).block, (ad497.add ((x5_1).toNat * 2)).off + 1, none⟩ = some (.int .i64 ((rd_T65 l1 x5_1).f1))) (ds := []) #[false, false, false, false, false, false, false, false, false, false] (by kernel_rfl) rfl rfl ⟨(sqa HB hw496_0 :), (sqa HB hw496_1 :), (sqa HB hw497_0 :), (sqa HB hw497_1 :)⟩ (fun hHeld => ?_); refine with_tabW laws_eqRefS.tab6 laws_eqRefS.bits6 (fun HT_ HW_ => ?_)
   generalize wr.drew = w9 at HB hx496_0 hx496_1 hx497_0 hx497_1 hHeld ⊢
   refine sqp HT_ 0 17 ?_
   refine sqp HT_ 1 18 ?_
   refine sqp HT_ 2 19 ?_
   refine sqp HT_ 4 21 ?_
   refine sqp HT_ 5 22 ?_
   refine sqp HT_ 6 23 ?_
   refine sqw HT_ HW_ 3 20 hHeld ?_
   refine sqw HT_ HW_ 7 24 hHeld ?_
   refine sqo HT_ 8 25 (fun K hK => ?_)
   refine sqG Try.func37 #[.agg #[.int .i64 ((rd_T65 l0 x5_1).f0), .int .i64 ((rd_T65 l0 x5_1).f1)], .agg #[.int .i64 ((rd_T65 l1 x5_1).f0), .int .i64 ((rd_T65 l1 x5_1).f1)]] ?_
   with_reducible refine (laws_eqRef.calls ((rd_T65 l0 x5_1).f0) ((rd_T65 l0 x5_1).f1) ((rd_T65 l1 x5_1).f0) ((rd_T65 l1 x5_1).f1) true _ A7.out).mono ?_
   rintro e w10 ⟨rfl, hb⟩
   refine ⟨_, rfl, ?_⟩
   replace HB := sqs HB hb
   (try clear hb)
   refine hK.out _ _ ⟨(sqa HB hw496_0 :), (sqa HB hw496_1 :), (sqa HB hw497_0 :), (sqa HB hw497_1 :)⟩ (fun hHeld => ?_)
   clear hK K
   refine sqnm ?_
   refine sqp HT_ 9 26 ?_
   refine done_ (done_of HT_.out (by kernel_rfl)) ?_
   try go_wp2
   go_roundg k1
   case measure => have := HK1.out; omega
   case rel => exact ⟨(wrap64 (x5_1 + 1)), (by first | rfl | (simp; done) | (simp [*]; done)), H', ⟨by have := HK1.out; omega⟩, sqh HB⟩

/-! ### laws_eqCells: function 38 -/
set_option maxHeartbeats 8000000 in
set_option maxRecDepth 100000 in
theorem laws_eqCells.calls (k : Nat) (A0_0 : Option Addr) (c0_0 : Nat) (l0_0 : List Int) (A1_0 : Option Addr) (c1_0 : Nat) (l1_0 : List Int) (r : Bool) (w : World) (hr0_0 : Kd.C (Kd.int .i64) w A0_0 l0_0.length l0_0) (hc0_0 : l0_0.length ≤ c0_0) (hr1_0 : Kd.C (Kd.int .i64) w A1_0 l1_0.length l1_0) (hc1_0 : l1_0.length ≤ c1_0) (h : laws_eqCells.f k l0_0 l1_0 = some r) :
  Calls Try.prog 38 #[.agg #[.slice A0_0 l0_0.length c0_0], .agg #[.slice A1_0 l1_0.length c1_0]] w fun e w' => e = .returned (.bool r) ∧ Below w.heap.size w w' := by
 have hu66 := Try.underlying66
 have HR0_0 := Aside0.mk hr0_0
 have HC0_0 := Aside0.mk hc0_0
 clear hr0_0 hc0_0
 have HR1_0 := Aside0.mk hr1_0
 have HC1_0 := Aside0.mk hc1_0
 clear hr1_0 hc1_0
 have HB := Aside0.mk (Below.refl w.heap.size w)
 have H := h
 unfold laws_eqCells.f at H
 clear h
 replace H := Option.bind_eq_some_iff.mp H
 obtain ⟨t501, A30, H⟩ := H
 try dsimp only at H
 have A3 := Aside0.mk A30
 clear A30
 by_cases c4 : t501 = true
 ·subst c4
  have H1 : (some true) = some r := by rw [if_pos rfl] at H; exact H
  clear H
  have H := H1
  clear H1
  obtain rfl := Option.some.inj H
  go_enter Try.func38, Try.ntmps38
  go_wp2_with (first | ((with_reducible refine gate_dst (N := 2) rfl ?_); refine sqx 2 #[.slice A0_0 l0_0.length c0_0] 66 ?_; intro gb499 hg w5 hbox hb; have BK499 := Aside0.mk hbox; have GW499 := sqg HB hg; have GE499 := sqg HB hg; replace HB := sqs HB hb; clear hb hbox hg) | ((with_reducible refine gate_dst (N := 3) rfl ?_); refine sqx 3 #[.slice A1_0 l1_0.length c1_0] 66 ?_; intro gb500 hg w6 hbox hb; have BK500 := Aside0.mk hbox; have GW500 := sqg HB hg; have GE500 := sqg HB hg; have NB499_500 := sqn BK499 hg; have NB500_499 := sqm BK499 hg; replace BK499 := sqb BK499 hb; replace HB := sqs HB hb; clear hb hbox hg; have hnb7 := NB499_500.out; have hnc7 := NB500_499.out; obtain ⟨hcz8_0, hfz8_0⟩ := sqc1 BK499; obtain ⟨hcz9_0, hfz9_0⟩ := sqc1 BK500) | ((with_reducible refine gate_callee (f := 14) rfl ?_); refine sqL (some 9) Try.func14 #[.slice A0_0 l0_0.length c0_0, .slice A1_0 l1_0.length c1_0] ?_; (with_reducible refine (laws_eqIntS.calls k _ _ l0_0 _ _ l1_0 true _ ?side1 ?side2 ?side3 ?side4 A3.out).mono ?_); (case side1 => exact sqC (Kd.C_below HR0_0.out HB.out)); (case side2 => exact HC0_0.out); (case side3 => exact sqC (Kd.C_below HR1_0.out HB.out)); (case side4 => exact HC1_0.out); rintro e w' ⟨rfl, ⟨nd, rfl⟩⟩; refine ⟨_, rfl, ?_⟩))
  go_ret
  exact sqe HB
 replace c4 := Bool.eq_false_iff.mpr c4
 subst c4
 have H1 : (some false) = some r := by rw [if_neg (show ¬ (false = true) by decide)] at H; exact H
 clear H
 have H := H1
 clear H1
 obtain rfl := Option.some.inj H
 go_enter Try.func38, Try.ntmps38
 go_wp2_with (first | ((with_reducible refine gate_dst (N := 2) rfl ?_); refine sqx 2 #[.slice A0_0 l0_0.length c0_0] 66 ?_; intro gb499 hg w10 hbox hb; have BK499 := Aside0.mk hbox; have GW499 := sqg HB hg; have GE499 := sqg HB hg; replace HB := sqs HB hb; clear hb hbox hg) | ((with_reducible refine gate_dst (N := 3) rfl ?_); refine sqx 3 #[.slice A1_0 l1_0.length c1_0] 66 ?_; intro gb500 hg w11 hbox hb; have BK500 := Aside0.mk hbox; have GW500 := sqg HB hg; have GE500 := sqg HB hg; have NB499_500 := sqn BK499 hg; have NB500_499 := sqm BK499 hg; replace BK499 := sqb BK499 hb; replace HB := sqs HB hb; clear hb hbox hg; have hnb12 := NB499_500.out; have hnc12 := NB500_499.out; obtain ⟨hcz13_0, hfz13_0⟩ := sqc1 BK499; obtain ⟨hcz14_0, hfz14_0⟩ := sqc1 BK500) | ((with_reducible refine gate_callee (f := 14) rfl ?_); refine sqL (some 9) Try.func14 #[.slice A0_0 l0_0.length c0_0, .slice A1_0 l1_0.length c1_0] ?_; (with_reducible refine (laws_eqIntS.calls k _ _ l0_0 _ _ l1_0 false _ ?side1 ?side2 ?side3 ?side4 A3.out).mono ?_); (case side1 => exact sqC (Kd.C_below HR0_0.out HB.out)); (case side2 => exact HC0_0.out); (case side3 => exact sqC (Kd.C_below HR1_0.out HB.out)); (case side4 => exact HC1_0.out); rintro e w' ⟨rfl, ⟨nd, rfl⟩⟩; refine ⟨_, rfl, ?_⟩))
 go_ret
 exact sqe HB

/-! ### laws_eqCellsS: function 16 -/
def laws_eqCellsS.T6 : Bool × List (List Nat × List Nat) := (true, [([], []), ([], []), ([0, 1], [0, 1]), ([2], [2]), ([], []), ([], []), ([4, 5], [4, 5]), ([6], [6]), ([3, 7], [3, 7]), ([8], [8])])
def laws_eqCellsS.B6 : List Nat := [0, 0, 3, 7, 0, 0, 48, 112, 255, 511]
theorem laws_eqCellsS.tab6 : rtab .any (opsOf Try.f16 6) = laws_eqCellsS.T6 := by kernel_rfl
theorem laws_eqCellsS.bits6 : waitsOk laws_eqCellsS.T6.2 laws_eqCellsS.B6 = true := by kernel_rfl
set_option maxHeartbeats 8000000 in
set_option maxRecDepth 100000 in
theorem laws_eqCellsS.calls (k : Nat) (A0 : Option Addr) (c0 : Nat) (l0 : List (S66)) (A1 : Option Addr) (c1 : Nat) (l1 : List (S66)) (r : Bool) (w : World) (hr0 : Kd.C k66 w A0 l0.length l0) (hc0 : l0.length ≤ c0) (hr1 : Kd.C k66 w A1 l1.length l1) (hc1 : l1.length ≤ c1) (h : laws_eqCellsS.f k l0 l1 = some r) :
  Calls Try.prog 16 #[.slice A0 l0.length c0, .slice A1 l1.length c1] w fun e w' => e = .returned (.bool r) ∧ Below w.heap.size w w' := by
 have hu66 := Try.underlying66
 have HR0 := Aside0.mk hr0
 have HC0 := Aside0.mk hc0
 clear hr0 hc0
 have HR1 := Aside0.mk hr1
 have HC1 := Aside0.mk hc1
 clear hr1 hc1
 have HB := Aside0.mk (Below.refl w.heap.size w)
 have H := h
 unfold laws_eqCellsS.f at H
 clear h
 replace H := sqi H
 rcases H with ⟨c3, H⟩ | ⟨c3, H⟩
 ·have c3b0 : ((l0.length : Int) == (l1.length : Int)) = false := beq_eq_false_iff_ne.mpr c3
  have c3b1 : ((l0.length : Int) != (l1.length : Int)) = true := bne_iff_ne.mpr c3
  have c3b2 : (l0.length == l1.length) = false := by first | simpa using c3 | (simp at c3 ⊢; omega)
  obtain rfl := Option.some.inj H
  go_enter Try.func16, Try.ntmps16
  go_wp2
  go_ret
  exact sqe HB
 have c3b0 : ((l0.length : Int) == (l1.length : Int)) = true := beq_iff_eq.mpr c3
 have c3b1 : ((l0.length : Int) != (l1.length : Int)) = false := bne_eq_false_iff_eq.mpr c3
 have c3b2 : (l0.length == l1.length) = true := by first | simpa using c3 | (simp at c3 ⊢; omega)
 clear c3
 have H' := Aside0.mk H
 clear H
 go_enter Try.func16, Try.ntmps16
 go_wp2
 go_loopg [5] k (fun kq v5 w' => ∃ (x5_1 : Int), v5 = .int .i64 x5_1 ∧ Aside0 (laws_eqCellsS.l0 kq l0 l1 x5_1 = some r) ∧ Aside0 (kq ≤ k) ∧ Aside0 (Below w.heap.size w w'))
 case atStart => exact ⟨(0), (by first | rfl | (simp; done) | (simp [*]; done)), H', ⟨Nat.le_refl _⟩, sqh HB⟩
 case round =>
  clear H'
  obtain ⟨x5_1, rfl, HA, HK1, HB⟩ := hrel
  cases gk with
  | zero => exact absurd HA.out (by simp [laws_eqCellsS.l0])
  | succ k1 =>
   have H := HA.out
   clear HA
   simp only [laws_eqCellsS.l0] at H
   replace H := sqi H
   rcases H with ⟨c4, H⟩ | ⟨c4, H⟩
   ·have c4b0 := decide_eq_false c4
    clear c4
    obtain rfl := Option.some.inj H
    go_wp2
    go_ret
    exact sqe HB
   have c4b0 := decide_eq_true c4
   clear c4
   replace H := sqi H
   rcases H with ⟨c5, H⟩ | ⟨c5, H⟩
   ·exact absurd H (by simp)
   have c5b0 := decide_eq_true c5
   clear c5
   replace H := sqi H
   rcases H with ⟨c6, H⟩ | ⟨c6, H⟩
   ·exact absurd H (by simp)
   have c6b0 := decide_eq_true c6
   clear c6
   replace H := Option.bind_eq_some_iff.mp H
   obtain ⟨t504, A70, H⟩ := H
   try dsimp only at H
   have A7 := Aside0.mk A70
   clear A70
   rcases sqI (t504 = true) with c8 | c8
   ·replace c8 := Bool.eq_false_iff.mpr c8
    subst c8
    have H1 : (some false) = some r := by rw [if_neg (show ¬ (false = true) by decide)] at H; exact H
    clear H
    have H := H1
    clear H1
    obtain rfl := Option.some.inj H
    try go_wp2
    replace HB := Aside0.mk (below_drew1 HB.out)
    have p502 : 0 ≤ (x5_1 : Int) := sqd
    have q502 : x5_1 < (l0.length : Int) := sqd
    obtain ⟨ad502, A502_0, c502_0, e502, hx502_0, hl502_0, hi502_0⟩ := at_T66 HR0.out x5_1 p502 q502
    have hw502_0 := hx502_0
    cases e502
    replace hx502_0 := sqa HB hx502_0
    have HR502_0 := Aside0.mk hi502_0
    have HC502_0 := Aside0.mk hl502_0
    clear hi502_0 hl502_0
    replace p502 := eq_true p502
    replace q502 := eq_true q502
    have p503 : 0 ≤ (x5_1 : Int) := sqd
    have q503 : x5_1 < (l1.length : Int) := sqd
    obtain ⟨ad503, A503_0, c503_0, e503, hx503_0, hl503_0, hi503_0⟩ := at_T66 HR1.out x5_1 p503 q503
    have hw503_0 := hx503_0
    cases e503
    replace hx503_0 := sqa HB hx503_0
    have HR503_0 := Aside0.mk hi503_0
    have HC503_0 := Aside0.mk hl503_0
    clear hi503_0 hl503_0
    replace p503 := eq_true p503
    replace q503 := eq_true q503
    refine start_ (n := 10) (S := fun w' => w'.cell? (ad502.add (x5_1).toNat) = some (.slice A502_0 ((rd_T66 l0 x5_1).f0).length c502_0) ∧ w'.cell? (ad503.add (x5_1).toNat) = some (.slice A503_0 ((rd_T66 l1 x5_1).f0).length c503_0)) (ds := []) #[false, false, false, false, false, false, false, false, false, false] (by kernel_rfl) rfl rfl ⟨(sqa HB hw502_0 :), (sqa HB hw503_0 :)⟩ (fun hHeld => ?_); refine with_tabW laws_eqCellsS.tab6 laws_eqCellsS.bits6 (fun HT_ HW_ => ?_)
    generalize wr.drew = w11 at HB HR502_0 HR503_0 hx502_0 hx503_0 hHeld ⊢
    refine sqp HT_ 0 17 ?_
    refine sqp HT_ 1 18 ?_
    refine sqp HT_ 2 19 ?_
    refine sqp HT_ 4 21 ?_
    refine sqp HT_ 5 22 ?_
    refine sqp HT_ 6 23 ?_
    refine sqw HT_ HW_ 3 20 hHeld ?_
    refine sqw HT_ HW_ 7 24 hHeld ?_
    refine sqo HT_ 8 25 (fun K hK => ?_)
    refine sqG Try.func38 #[.agg #[.slice A502_0 ((rd_T66 l0 x5_1).f0).length c502_0], .agg #[.slice A503_0 ((rd_T66 l1 x5_1).f0).length c503_0]] ?_
    with_reducible refine (laws_eqCells.calls k1 _ _ ((rd_T66 l0 x5_1).f0) _ _ ((rd_T66 l1 x5_1).f0) false _ ?side1 ?side2 ?side3 ?side4 A7.out).mono ?_
    (case side1 => exact sqC (Kd.C_below HR502_0.out HB.out))
    (case side2 => exact HC502_0.out)
    (case side3 => exact sqC (Kd.C_below HR503_0.out HB.out))
    (case side4 => exact HC503_0.out)
    rintro e w12 ⟨rfl, hb⟩
    refine ⟨_, rfl, ?_⟩
    replace HB := sqs HB hb
    (try clear hb)
    refine hK.out _ _ ⟨(sqa HB hw502_0 :), (sqa HB hw503_0 :)⟩ (fun hHeld => ?_)
    clear hK K
    refine sqnm ?_
    refine sqp HT_ 9 26 ?_
    refine done_ (done_of HT_.out (by kernel_rfl)) ?_
    try go_wp2
    go_ret
    exact sqe HB
   subst c8
   have H1 : (laws_eqCellsS.l0 k1 l0 l1 (wrap64 (x5_1 + 1))) = some r := by rw [if_pos rfl] at H; exact H
   clear H
   have H := H1
   clear H1
   have H' := Aside0.mk H
   clear H
   try go_wp2
   replace HB := Aside0.mk (below_drew1 HB.out)
   have p502 : 0 ≤ (x5_1 : Int) := sqd
   have q502 : x5_1 < (l0.length : Int) := sqd
   obtain ⟨ad502, A502_0, c502_0, e502, hx502_0, hl502_0, hi502_0⟩ := at_T66 HR0.out x5_1 p502 q502
   have hw502_0 := hx502_0
   cases e502
   replace hx502_0 := sqa HB hx502_0
   have HR502_0 := Aside0.mk hi502_0
   have HC502_0 := Aside0.mk hl502_0
   clear hi502_0 hl502_0
   replace p502 := eq_true p502
   replace q502 := eq_true q502
   have p503 : 0 ≤ (x5_1 : Int) := sqd
   have q503 : x5_1 < (l1.length : Int) := sqd
   obtain ⟨ad503, A503_0, c503_0, e503, hx503_0, hl503_0, hi503_0⟩ := at_T66 HR1.out x5_1 p503 q503
   have hw503_0 := hx503_0
   cases e503
   replace hx503_0 := sqa HB hx503_0
   have HR503_0 := Aside0.mk hi503_0
   have HC503_0 := Aside0.mk hl503_0
   clear hi503_0 hl503_0
   replace p503 := eq_true p503
   replace q503 := eq_true q503
   refine start_ (n := 10) (S := fun w' => w'.cell? (ad502.add (x5_1).toNat) = some (.slice A502_0 ((rd_T66 l0 x5_1).f0).length c502_0) ∧ w'.cell? (ad503.add (x5_1).toNat) = some (.slice A503_0 ((rd_T66 l1 x5_1).f0).length c503_0)) (ds := []) #[false, false, false, false, false, false, false, false, false, false] (by kernel_rfl) rfl rfl ⟨(sqa HB hw502_0 :), (sqa HB hw503_0 :)⟩ (fun hHeld => ?_); refine with_tabW laws_eqCellsS.tab6 laws_eqCellsS.bits6 (fun HT_ HW_ => ?_)
   generalize wr.drew = w9 at HB HR502_0 HR503_0 hx502_0 hx503_0 hHeld ⊢
   refine sqp HT_ 0 17 ?_
   refine sqp HT_ 1 18 ?_
   refine sqp HT_ 2 19 ?_
   refine sqp HT_ 4 21 ?_
   refine sqp HT_ 5 22 ?_
   refine sqp HT_ 6 23 ?_
   refine sqw HT_ HW_ 3 20 hHeld ?_
   refine sqw HT_ HW_ 7 24 hHeld ?_
   refine sqo HT_ 8 25 (fun K hK => ?_)
   refine sqG Try.func38 #[.agg #[.slice A502_0 ((rd_T66 l0 x5_1).f0).length c502_0], .agg #[.slice A503_0 ((rd_T66 l1 x5_1).f0).length c503_0]] ?_
   with_reducible refine (laws_eqCells.calls k1 _ _ ((rd_T66 l0 x5_1).f0) _ _ ((rd_T66 l1 x5_1).f0) true _ ?side1 ?side2 ?side3 ?side4 A7.out).mono ?_
   (case side1 => exact sqC (Kd.C_below HR502_0.out HB.out))
   (case side2 => exact HC502_0.out)
   (case side3 => exact sqC (Kd.C_below HR503_0.out HB.out))
   (case side4 => exact HC503_0.out)
   rintro e w10 ⟨rfl, hb⟩
   refine ⟨_, rfl, ?_⟩
   replace HB := sqs HB hb
   (try clear hb)
   refine hK.out _ _ ⟨(sqa HB hw502_0 :), (sqa HB hw503_0 :)⟩ (fun hHeld => ?_)
   clear hK K
   refine sqnm ?_
   refine sqp HT_ 9 26 ?_
   refine done_ (done_of HT_.out (by kernel_rfl)) ?_
   try go_wp2
   go_roundg k1
   case measure => have := HK1.out; omega
   case rel => exact ⟨(wrap64 (x5_1 + 1)), (by first | rfl | (simp; done) | (simp [*]; done)), H', ⟨by have := HK1.out; omega⟩, sqh HB⟩

end Go.Proofs.Ytnmgckdgmplddaa.PFnExactAbsHas
