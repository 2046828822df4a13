/- Functions of the program as plain Lean functions, and that calls of them come to what these tell. Conditions: those in each law. -/
import Derived.Test.YtnmgckdgmplddaaSq
import Derived.Test.YtnmgckdgmplddaaDFnExactAbsHas
import Derived.Test.YtnmgckdgmplddaaQFnExactAbsHasx0
namespace Go.Proofs.Ytnmgckdgmplddaa.PFnExactAbsHas
open Go.RowKit Go.Proofs.Ytnmgckdgmplddaa.Sq Go.Proofs.YtnmgckdgmplddaaW.PrintWords Go.Proofs.YtnmgckdgmplddaaW.PrintLast Go.Proofs.YtnmgckdgmplddaaW.PrintMore
attribute [local go_sem] max2_int min2_int max_two min_two max_three min_three max_four min_four   -- for this text's walks alone
set_option linter.unusedVariables false
set_option linter.unusedSimpArgs false

/-! ### laws_eqVal: function 66 -/
set_option maxHeartbeats 8000000 in
set_option maxRecDepth 100000 in
theorem laws_eqVal.calls (a0_0 : Int) (a0_1 : Int) (a0_2 : Int) (a0_3 : Int) (a1_0 : Int) (a1_1 : Int) (a1_2 : Int) (a1_3 : Int) (r : Bool) (w : World) (h : laws_eqVal.f a0_0 a0_1 a0_2 a0_3 a1_0 a1_1 a1_2 a1_3 = some r) :
  Calls Try.prog 66 #[.agg #[.int .i64 a0_0, .int .i64 a0_1, .int .i64 a0_2, .int .i64 a0_3], .agg #[.int .i64 a1_0, .int .i64 a1_1, .int .i64 a1_2, .int .i64 a1_3]] w fun e w' => e = .returned (.bool r) ∧ Below w.heap.size w w' := by
 have hu60 := Try.underlying60
 have HB := Aside0.mk (Below.refl w.heap.size w)
 have H := h
 unfold laws_eqVal.f at H
 clear h
 replace H := sqi H
 rcases H with ⟨c3, H⟩ | ⟨c3, H⟩
 ·have c3b0 : (a0_0 == a1_0) = false := beq_eq_false_iff_ne.mpr c3
  have c3b1 : (a0_0 != a1_0) = true := bne_iff_ne.mpr c3
  obtain rfl := Option.some.inj H
  go_enter Try.func66, Try.ntmps66
  go_wp2_with (first | ((with_reducible refine gate_dst (N := 2) rfl ?_); refine sqx 2 #[.int .i64 a0_0, .int .i64 a0_1, .int .i64 a0_2, .int .i64 a0_3] 60 ?_; intro gb471 hg w27 hbox hb; have BK471 := Aside0.mk hbox; have GW471 := sqg HB hg; have GE471 := sqg HB hg; replace HB := sqs HB hb; clear hb hbox hg) | ((with_reducible refine gate_dst (N := 3) rfl ?_); refine sqx 3 #[.int .i64 a1_0, .int .i64 a1_1, .int .i64 a1_2, .int .i64 a1_3] 60 ?_; intro gb472 hg w28 hbox hb; have BK472 := Aside0.mk hbox; have GW472 := sqg HB hg; have GE472 := sqg HB hg; have NB471_472 := sqn BK471 hg; have NB472_471 := sqm BK471 hg; replace BK471 := sqb BK471 hb; replace HB := sqs HB hb; clear hb hbox hg; have hnb29 := NB471_472.out; have hnc29 := NB472_471.out; obtain ⟨hcz30_0, hcz30_1, hcz30_2, hcz30_3, hfz30_0, hfz30_1, hfz30_2, hfz30_3⟩ := sqc4 BK471; obtain ⟨hcz31_0, hcz31_1, hcz31_2, hcz31_3, hfz31_0, hfz31_1, hfz31_2, hfz31_3⟩ := sqc4 BK472))
  go_ret
  exact sqe HB
 have c3b0 : (a0_0 == a1_0) = true := beq_iff_eq.mpr c3
 have c3b1 : (a0_0 != a1_0) = false := bne_eq_false_iff_eq.mpr c3
 clear c3
 replace H := sqi H
 rcases H with ⟨c4, H⟩ | ⟨c4, H⟩
 ·have c4b0 : (a0_1 == a1_1) = false := beq_eq_false_iff_ne.mpr c4
  have c4b1 : (a0_1 != a1_1) = true := bne_iff_ne.mpr c4
  obtain rfl := Option.some.inj H
  go_enter Try.func66, Try.ntmps66
  go_wp2_with (first | ((with_reducible refine gate_dst (N := 2) rfl ?_); refine sqx 2 #[.int .i64 a0_0, .int .i64 a0_1, .int .i64 a0_2, .int .i64 a0_3] 60 ?_; intro gb471 hg w22 hbox hb; have BK471 := Aside0.mk hbox; have GW471 := sqg HB hg; have GE471 := sqg HB hg; replace HB := sqs HB hb; clear hb hbox hg) | ((with_reducible refine gate_dst (N := 3) rfl ?_); refine sqx 3 #[.int .i64 a1_0, .int .i64 a1_1, .int .i64 a1_2, .int .i64 a1_3] 60 ?_; intro gb472 hg w23 hbox hb; have BK472 := Aside0.mk hbox; have GW472 := sqg HB hg; have GE472 := sqg HB hg; have NB471_472 := sqn BK471 hg; have NB472_471 := sqm BK471 hg; replace BK471 := sqb BK471 hb; replace HB := sqs HB hb; clear hb hbox hg; have hnb24 := NB471_472.out; have hnc24 := NB472_471.out; obtain ⟨hcz25_0, hcz25_1, hcz25_2, hcz25_3, hfz25_0, hfz25_1, hfz25_2, hfz25_3⟩ := sqc4 BK471; obtain ⟨hcz26_0, hcz26_1, hcz26_2, hcz26_3, hfz26_0, hfz26_1, hfz26_2, hfz26_3⟩ := sqc4 BK472))
  go_ret
  exact sqe HB
 have c4b0 : (a0_1 == a1_1) = true := beq_iff_eq.mpr c4
 have c4b1 : (a0_1 != a1_1) = false := bne_eq_false_iff_eq.mpr c4
 clear c4
 replace H := sqi H
 rcases H with ⟨c5, H⟩ | ⟨c5, H⟩
 ·have c5b0 : (a0_2 == a1_2) = false := beq_eq_false_iff_ne.mpr c5
  have c5b1 : (a0_2 != a1_2) = true := bne_iff_ne.mpr c5
  obtain rfl := Option.some.inj H
  go_enter Try.func66, Try.ntmps66
  go_wp2_with (first | ((with_reducible refine gate_dst (N := 2) rfl ?_); refine sqx 2 #[.int .i64 a0_0, .int .i64 a0_1, .int .i64 a0_2, .int .i64 a0_3] 60 ?_; intro gb471 hg w17 hbox hb; have BK471 := Aside0.mk hbox; have GW471 := sqg HB hg; have GE471 := sqg HB hg; replace HB := sqs HB hb; clear hb hbox hg) | ((with_reducible refine gate_dst (N := 3) rfl ?_); refine sqx 3 #[.int .i64 a1_0, .int .i64 a1_1, .int .i64 a1_2, .int .i64 a1_3] 60 ?_; intro gb472 hg w18 hbox hb; have BK472 := Aside0.mk hbox; have GW472 := sqg HB hg; have GE472 := sqg HB hg; have NB471_472 := sqn BK471 hg; have NB472_471 := sqm BK471 hg; replace BK471 := sqb BK471 hb; replace HB := sqs HB hb; clear hb hbox hg; have hnb19 := NB471_472.out; have hnc19 := NB472_471.out; obtain ⟨hcz20_0, hcz20_1, hcz20_2, hcz20_3, hfz20_0, hfz20_1, hfz20_2, hfz20_3⟩ := sqc4 BK471; obtain ⟨hcz21_0, hcz21_1, hcz21_2, hcz21_3, hfz21_0, hfz21_1, hfz21_2, hfz21_3⟩ := sqc4 BK472))
  go_ret
  exact sqe HB
 have c5b0 : (a0_2 == a1_2) = true := beq_iff_eq.mpr c5
 have c5b1 : (a0_2 != a1_2) = false := bne_eq_false_iff_eq.mpr c5
 clear c5
 replace H := sqi H
 rcases H with ⟨c6, H⟩ | ⟨c6, H⟩
 ·have c6b0 : (a0_3 == a1_3) = false := beq_eq_false_iff_ne.mpr c6
  have c6b1 : (a0_3 != a1_3) = true := bne_iff_ne.mpr c6
  obtain rfl := Option.some.inj H
  go_enter Try.func66, Try.ntmps66
  go_wp2_with (first | ((with_reducible refine gate_dst (N := 2) rfl ?_); refine sqx 2 #[.int .i64 a0_0, .int .i64 a0_1, .int .i64 a0_2, .int .i64 a0_3] 60 ?_; intro gb471 hg w12 hbox hb; have BK471 := Aside0.mk hbox; have GW471 := sqg HB hg; have GE471 := sqg HB hg; replace HB := sqs HB hb; clear hb hbox hg) | ((with_reducible refine gate_dst (N := 3) rfl ?_); refine sqx 3 #[.int .i64 a1_0, .int .i64 a1_1, .int .i64 a1_2, .int .i64 a1_3] 60 ?_; intro gb472 hg w13 hbox hb; have BK472 := Aside0.mk hbox; have GW472 := sqg HB hg; have GE472 := sqg HB hg; have NB471_472 := sqn BK471 hg; have NB472_471 := sqm BK471 hg; replace BK471 := sqb BK471 hb; replace HB := sqs HB hb; clear hb hbox hg; have hnb14 := NB471_472.out; have hnc14 := NB472_471.out; obtain ⟨hcz15_0, hcz15_1, hcz15_2, hcz15_3, hfz15_0, hfz15_1, hfz15_2, hfz15_3⟩ := sqc4 BK471; obtain ⟨hcz16_0, hcz16_1, hcz16_2, hcz16_3, hfz16_0, hfz16_1, hfz16_2, hfz16_3⟩ := sqc4 BK472))
  go_ret
  exact sqe HB
 have c6b0 : (a0_3 == a1_3) = true := beq_iff_eq.mpr c6
 have c6b1 : (a0_3 != a1_3) = false := bne_eq_false_iff_eq.mpr c6
 clear c6
 obtain rfl := Option.some.inj H
 go_enter Try.func66, Try.ntmps66
 go_wp2_with (first | ((with_reducible refine gate_dst (N := 2) rfl ?_); refine sqx 2 #[.int .i64 a0_0, .int .i64 a0_1, .int .i64 a0_2, .int .i64 a0_3] 60 ?_; intro gb471 hg w7 hbox hb; have BK471 := Aside0.mk hbox; have GW471 := sqg HB hg; have GE471 := sqg HB hg; replace HB := sqs HB hb; clear hb hbox hg) | ((with_reducible refine gate_dst (N := 3) rfl ?_); refine sqx 3 #[.int .i64 a1_0, .int .i64 a1_1, .int .i64 a1_2, .int .i64 a1_3] 60 ?_; intro gb472 hg w8 hbox hb; have BK472 := Aside0.mk hbox; have GW472 := sqg HB hg; have GE472 := sqg HB hg; have NB471_472 := sqn BK471 hg; have NB472_471 := sqm BK471 hg; replace BK471 := sqb BK471 hb; replace HB := sqs HB hb; clear hb hbox hg; have hnb9 := NB471_472.out; have hnc9 := NB472_471.out; obtain ⟨hcz10_0, hcz10_1, hcz10_2, hcz10_3, hfz10_0, hfz10_1, hfz10_2, hfz10_3⟩ := sqc4 BK471; obtain ⟨hcz11_0, hcz11_1, hcz11_2, hcz11_3, hfz11_0, hfz11_1, hfz11_2, hfz11_3⟩ := sqc4 BK472))
 go_ret
 exact sqe HB

/-! ### laws_eqValS: function 34 -/
def laws_eqValS.T6 : Bool × List (List Nat × List Nat) := (true, [([], []), ([], []), ([0, 1], [0, 1]), ([2], [2]), ([], []), ([], []), ([4, 5], [4, 5]), ([6], [6]), ([3, 7], [3, 7]), ([8], [8])])
def laws_eqValS.B6 : List Nat := [0, 0, 3, 7, 0, 0, 48, 112, 255, 511]
theorem laws_eqValS.tab6 : rtab .any (opsOf Try.f34 6) = laws_eqValS.T6 := by kernel_rfl
theorem laws_eqValS.bits6 : waitsOk laws_eqValS.T6.2 laws_eqValS.B6 = true := by kernel_rfl
set_option maxHeartbeats 8000000 in
set_option maxRecDepth 100000 in
theorem laws_eqValS.calls (k : Nat) (A0 : Option Addr) (c0 : Nat) (l0 : List (S60)) (A1 : Option Addr) (c1 : Nat) (l1 : List (S60)) (r : Bool) (w : World) (hr0 : Kd.C k60 w A0 l0.length l0) (hc0 : l0.length ≤ c0) (hr1 : Kd.C k60 w A1 l1.length l1) (hc1 : l1.length ≤ c1) (h : laws_eqValS.f k l0 l1 = some r) :
  Calls Try.prog 34 #[.slice A0 l0.length c0, .slice A1 l1.length c1] w fun e w' => e = .returned (.bool r) ∧ Below w.heap.size w w' := by
 have hu60 := Try.underlying60
 have HR0 := Aside0.mk hr0
 have HC0 := Aside0.mk hc0
 clear hr0 hc0
 have HR1 := Aside0.mk hr1
 have HC1 := Aside0.mk hc1
 clear hr1 hc1
 have HB := Aside0.mk (Below.refl w.heap.size w)
 have H := h
 unfold laws_eqValS.f at H
 clear h
 replace H := sqi H
 rcases H with ⟨c3, H⟩ | ⟨c3, H⟩
 ·have c3b0 : ((l0.length : Int) == (l1.length : Int)) = false := beq_eq_false_iff_ne.mpr c3
  have c3b1 : ((l0.length : Int) != (l1.length : Int)) = true := bne_iff_ne.mpr c3
  have c3b2 : (l0.length == l1.length) = false := by first | simpa using c3 | (simp at c3 ⊢; omega)
  obtain rfl := Option.some.inj H
  go_enter Try.func34, Try.ntmps34
  go_wp2
  go_ret
  exact sqe HB
 have c3b0 : ((l0.length : Int) == (l1.length : Int)) = true := beq_iff_eq.mpr c3
 have c3b1 : ((l0.length : Int) != (l1.length : Int)) = false := bne_eq_false_iff_eq.mpr c3
 have c3b2 : (l0.length == l1.length) = true := by first | simpa using c3 | (simp at c3 ⊢; omega)
 clear c3
 have H' := Aside0.mk H
 clear H
 go_enter Try.func34, Try.ntmps34
 go_wp2
 go_loopg [5] k (fun kq v5 w' => ∃ (x5_1 : Int), v5 = .int .i64 x5_1 ∧ Aside0 (laws_eqValS.l0 kq l0 l1 x5_1 = some r) ∧ Aside0 (kq ≤ k) ∧ Aside0 (Below w.heap.size w w'))
 case atStart => exact ⟨(0), (by first | rfl | (simp; done) | (simp [*]; done)), H', ⟨Nat.le_refl _⟩, sqh HB⟩
 case round =>
  clear H'
  obtain ⟨x5_1, rfl, HA, HK1, HB⟩ := hrel
  cases gk with
  | zero => exact absurd HA.out (by simp [laws_eqValS.l0])
  | succ k1 =>
   have H := HA.out
   clear HA
   simp only [laws_eqValS.l0] at H
   replace H := sqi H
   rcases H with ⟨c4, H⟩ | ⟨c4, H⟩
   ·have c4b0 := decide_eq_false c4
    clear c4
    obtain rfl := Option.some.inj H
    go_wp2
    go_ret
    exact sqe HB
   have c4b0 := decide_eq_true c4
   clear c4
   replace H := sqi H
   rcases H with ⟨c5, H⟩ | ⟨c5, H⟩
   ·exact absurd H (by simp)
   have c5b0 := decide_eq_true c5
   clear c5
   replace H := sqi H
   rcases H with ⟨c6, H⟩ | ⟨c6, H⟩
   ·exact absurd H (by simp)
   have c6b0 := decide_eq_true c6
   clear c6
   replace H := Option.bind_eq_some_iff.mp H
   obtain ⟨t475, A70, H⟩ := H
   try dsimp only at H
   have A7 := Aside0.mk A70
   clear A70
   rcases sqI (t475 = true) with c8 | c8
   ·replace c8 := Bool.eq_false_iff.mpr c8
    subst c8
    have H1 : (some false) = some r := by rw [if_neg (show ¬ (false = true) by decide)] at H; exact H
    clear H
    have H := H1
    clear H1
    obtain rfl := Option.some.inj H
    try go_wp2
    replace HB := Aside0.mk (below_drew1 HB.out)
    have p473 : 0 ≤ (x5_1 : Int) := sqd
    have q473 : x5_1 < (l0.length : Int) := sqd
    obtain ⟨ad473, e473, hx473_0, hx473_1, hx473_2, hx473_3⟩ := at_T60 HR0.out x5_1 p473 q473
    have hw473_3 := hx473_3
    have hw473_2 := hx473_2
    have hw473_1 := hx473_1
    have hw473_0 := hx473_0
    cases e473
    replace hx473_0 := sqa HB hx473_0
    replace hx473_1 := sqa HB hx473_1
    replace hx473_2 := sqa HB hx473_2
    replace hx473_3 := sqa HB hx473_3
    replace p473 := eq_true p473
    replace q473 := eq_true q473
    have p474 : 0 ≤ (x5_1 : Int) := sqd
    have q474 : x5_1 < (l1.length : Int) := sqd
    obtain ⟨ad474, e474, hx474_0, hx474_1, hx474_2, hx474_3⟩ := at_T60 HR1.out x5_1 p474 q474
    have hw474_3 := hx474_3
    have hw474_2 := hx474_2
    have hw474_1 := hx474_1
    have hw474_0 := hx474_0
    cases e474
    replace hx474_0 := sqa HB hx474_0
    replace hx474_1 := sqa HB hx474_1
    replace hx474_2 := sqa HB hx474_2
    replace hx474_3 := sqa HB hx474_3
    replace p474 := eq_true p474
    replace q474 := eq_true q474
    refine start_ (n := 10) (S := fun w' => w'.cell? (ad473.add ((x5_1).toNat * 4)) = some (.int .i64 ((rd_T60 l0 x5_1).f0)) ∧ w'.cell? ⟨(ad473.add ((x5_1).toNat * 4)).block, (ad473.add ((x5_1).toNat * 4)).off + 1, none⟩ = some (.int .i64 ((rd_T60 l0 x5_1).f1)) ∧ w'.cell? ⟨(ad473.add ((x5_1).toNat * 4)).block, (ad473.add ((x5_1).toNat * 4)).off + 2, none⟩ = some (.int .i64 ((rd_T60 l0 x5_1).f2)) ∧ w'.cell? ⟨(ad473.add ((x5_1).toNat * 4)).block, (ad473.add ((x5_1).toNat * 4)).off + 3, none⟩ = some (.int .i64 ((rd_T60 l0 x5_1).f3)) ∧ w'.cell? (ad474.add ((x5_1).toNat * 4)) = some (.int .i64 ((rd_T60 l1 x5_1).f0)) ∧ w'.cell? ⟨(ad474.add ((x5_1).toNat * 4)).block, (ad474.add ((x5_1).toNat * 4)).off + 1, none⟩ = some (.int .i64 ((rd_T60 l1 x5_1).f1)) ∧ w'.cell? ⟨(ad474.add ((x5_1).toNat * 4)).block, (ad474.add ((x5_1).toNat * 4)).off + 2, none⟩ = some (.int .i64 ((rd_T60 l1 x5_1).f2)) ∧ w'.cell? ⟨(ad474.add ((x5_1).toNat * 4)).block, (ad474.add ((x5_1).toNat * 4)).off + 3, none⟩ = some (.int .i64 ((rd_T60 l1 x5_1).f3))) (ds := []) #[false, false, false, false, false, false, false, false, false, false] (by kernel_rfl) rfl rfl ⟨(sqa HB hw473_0 :), (sqa HB hw473_1 :), (sqa HB hw473_2 :), (sqa HB hw473_3 :), (sqa HB hw474_0 :), (sqa HB hw474_1 :), (sqa HB hw474_2 :), (sqa HB hw474_3 :)⟩ (fun hHeld => ?_); refine with_tabW laws_eqValS.tab6 laws_eqValS.bits6 (fun HT_ HW_ => ?_)
    generalize wr.drew = w11 at HB hx473_0 hx473_1 hx473_2 hx473_3 hx474_0 hx474_1 hx474_2 hx474_3 hHeld ⊢
    refine sqp HT_ 0 17 ?_
    refine sqp HT_ 1 18 ?_
    refine sqp HT_ 2 19 ?_
    refine sqp HT_ 4 21 ?_
    refine sqp HT_ 5 22 ?_
    refine sqp HT_ 6 23 ?_
    refine sqw HT_ HW_ 3 20 hHeld ?_
    refine sqw HT_ HW_ 7 24 hHeld ?_
    refine sqo HT_ 8 25 (fun K hK => ?_)
    refine sqG Try.func66 #[.agg #[.int .i64 ((rd_T60 l0 x5_1).f0), .int .i64 ((rd_T60 l0 x5_1).f1), .int .i64 ((rd_T60 l0 x5_1).f2), .int .i64 ((rd_T60 l0 x5_1).f3)], .agg #[.int .i64 ((rd_T60 l1 x5_1).f0), .int .i64 ((rd_T60 l1 x5_1).f1), .int .i64 ((rd_T60 l1 x5_1).f2), .int .i64 ((rd_T60 l1 x5_1).f3)]] ?_
    with_reducible refine (laws_eqVal.calls ((rd_T60 l0 x5_1).f0) ((rd_T60 l0 x5_1).f1) ((rd_T60 l0 x5_1).f2) ((rd_T60 l0 x5_1).f3) ((rd_T60 l1 x5_1).f0) ((rd_T60 l1 x5_1).f1) ((rd_T60 l1 x5_1).f2) ((rd_T60 l1 x5_1).f3) false _ A7.out).mono ?_
    rintro e w12 ⟨rfl, hb⟩
    refine ⟨_, rfl, ?_⟩
    replace HB := sqs HB hb
    (try clear hb)
    refine hK.out _ _ ⟨(sqa HB hw473_0 :), (sqa HB hw473_1 :), (sqa HB hw473_2 :), (sqa HB hw473_3 :), (sqa HB hw474_0 :), (sqa HB hw474_1 :), (sqa HB hw474_2 :), (sqa HB hw474_3 :)⟩ (fun hHeld => ?_)
    clear hK K
    refine sqnm ?_
    refine sqp HT_ 9 26 ?_
    refine done_ (done_of HT_.out (by kernel_rfl)) ?_
    try go_wp2
    go_ret
    exact sqe HB
   subst c8
   have H1 : (laws_eqValS.l0 k1 l0 l1 (wrap64 (x5_1 + 1))) = some r := by rw [if_pos rfl] at H; exact H
   clear H
   have H := H1
   clear H1
   have H' := Aside0.mk H
   clear H
   try go_wp2
   replace HB := Aside0.mk (below_drew1 HB.out)
   have p473 : 0 ≤ (x5_1 : Int) := sqd
   have q473 : x5_1 < (l0.length : Int) := sqd
   obtain ⟨ad473, e473, hx473_0, hx473_1, hx473_2, hx473_3⟩ := at_T60 HR0.out x5_1 p473 q473
   have hw473_3 := hx473_3
   have hw473_2 := hx473_2
   have hw473_1 := hx473_1
   have hw473_0 := hx473_0
   cases e473
   replace hx473_0 := sqa HB hx473_0
   replace hx473_1 := sqa HB hx473_1
   replace hx473_2 := sqa HB hx473_2
   replace hx473_3 := sqa HB hx473_3
   replace p473 := eq_true p473
   replace q473 := eq_true q473
   have p474 : 0 ≤ (x5_1 : Int) := sqd
   have q474 : x5_1 < (l1.length : Int) := sqd
   obtain ⟨ad474, e474, hx474_0, hx474_1, hx474_2, hx474_3⟩ := at_T60 HR1.out x5_1 p474 q474
   have hw474_3 := hx474_3
   have hw474_2 := hx474_2
   have hw474_1 := hx474_1
   have hw474_0 := hx474_0
   cases e474
   replace hx474_0 := sqa HB hx474_0
   replace hx474_1 := sqa HB hx474_1
   replace hx474_2 := sqa HB hx474_2
   replace hx474_3 := sqa HB hx474_3
   replace p474 := eq_true p474
   replace q474 := eq_true q474
   refine start_ (n := 10) (S := fun w' => w'.cell? (ad473.add ((x5_1).toNat * 4)) = some (.int .i64 ((rd_T60 l0 x5_1).f0)) ∧ w'.cell? ⟨(ad473.add ((x5_1).toNat * 4)).block, (ad473.add ((x5_1).toNat * 4)).off + 1, none⟩ = some (.int .i64 ((rd_T60 l0 x5_1).f1)) ∧ w'.cell? ⟨(ad473.add ((x5_1).toNat * 4)).block, (ad473.add ((x5_1).toNat * 4)).off + 2, none⟩ = some (.int .i64 ((rd_T60 l0 x5_1).f2)) ∧ w'.cell? ⟨(ad473.add ((x5_1).toNat * 4)).block, (ad473.add ((x5_1).toNat * 4)).off + 3, none⟩ = some (.int .i64 ((rd_T60 l0 x5_1).f3)) ∧ w'.cell? (ad474.add ((x5_1).toNat * 4)) = some (.int .i64 ((rd_T60 l1 x5_1).f0)) ∧ w'.cell? ⟨(ad474.add ((x5_1).toNat * 4)).block, (ad474.add ((x5_1).toNat * 4)).off + 1, none⟩ = some (.int .i64 ((rd_T60 l1 x5_1).f1)) ∧ w'.cell? ⟨(ad474.add ((x5_1).toNat * 4)).block, (ad474.add ((x5_1).toNat * 4)).off + 2, none⟩ = some (.int .i64 ((rd_T60 l1 x5_1).f2)) ∧ w'.cell? ⟨(ad474.add ((x5_1).toNat * 4)).block, (ad474.add ((x5_1).toNat * 4)).off + 3, none⟩ = some (.int .i64 ((rd_T60 l1 x5_1).f3))) (ds := []) #[false, false, false, false, false, false, false, false, false, false] (by kernel_rfl) rfl rfl ⟨(sqa HB hw473_0 :), (sqa HB hw473_1 :), (sqa HB hw473_2 :), (sqa HB hw473_3 :), (sqa HB hw474_0 :), (sqa HB hw474_1 :), (sqa HB hw474_2 :), (sqa HB hw474_3 :)⟩ (fun hHeld => ?_); refine with_tabW laws_eqValS.tab6 laws_eqValS.bits6 (fun HT_ HW_ => ?_)
   generalize wr.drew = w9 at HB hx473_0 hx473_1 hx473_2 hx473_3 hx474_0 hx474_1 hx474_2 hx474_3 hHeld ⊢
   refine sqp HT_ 0 17 ?_
   refine sqp HT_ 1 18 ?_
   refine sqp HT_ 2 19 ?_
   refine sqp HT_ 4 21 ?_
   refine sqp HT_ 5 22 ?_
   refine sqp HT_ 6 23 ?_
   refine sqw HT_ HW_ 3 20 hHeld ?_
   refine sqw HT_ HW_ 7 24 hHeld ?_
   refine sqo HT_ 8 25 (fun K hK => ?_)
   refine sqG Try.func66 #[.agg #[.int .i64 ((rd_T60 l0 x5_1).f0), .int .i64 ((rd_T60 l0 x5_1).f1), .int .i64 ((rd_T60 l0 x5_1).f2), .int .i64 ((rd_T60 l0 x5_1).f3)], .agg #[.int .i64 ((rd_T60 l1 x5_1).f0), .int .i64 ((rd_T60 l1 x5_1).f1), .int .i64 ((rd_T60 l1 x5_1).f2), .int .i64 ((rd_T60 l1 x5_1).f3)]] ?_
   with_reducible refine (laws_eqVal.calls ((rd_T60 l0 x5_1).f0) ((rd_T60 l0 x5_1).f1) ((rd_T60 l0 x5_1).f2) ((rd_T60 l0 x5_1).f3) ((rd_T60 l1 x5_1).f0) ((rd_T60 l1 x5_1).f1) ((rd_T60 l1 x5_1).f2) ((rd_T60 l1 x5_1).f3) true _ A7.out).mono ?_
   rintro e w10 ⟨rfl, hb⟩
   refine ⟨_, rfl, ?_⟩
   replace HB := sqs HB hb
   (try clear hb)
   refine hK.out _ _ ⟨(sqa HB hw473_0 :), (sqa HB hw473_1 :), (sqa HB hw473_2 :), (sqa HB hw473_3 :), (sqa HB hw474_0 :), (sqa HB hw474_1 :), (sqa HB hw474_2 :), (sqa HB hw474_3 :)⟩ (fun hHeld => ?_)
   clear hK K
   refine sqnm ?_
   refine sqp HT_ 9 26 ?_
   refine done_ (done_of HT_.out (by kernel_rfl)) ?_
   try go_wp2
   go_roundg k1
   case measure => have := HK1.out; omega
   case rel => exact ⟨(wrap64 (x5_1 + 1)), (by first | rfl | (simp; done) | (simp [*]; done)), H', ⟨by have := HK1.out; omega⟩, sqh HB⟩

/-! ### laws_eqIntS: function 14 -/
set_option maxHeartbeats 8000000 in
set_option maxRecDepth 100000 in
theorem laws_eqIntS.calls (k : Nat) (A0 : Option Addr) (c0 : Nat) (l0 : List Int) (A1 : Option Addr) (c1 : Nat) (l1 : List Int) (r : Bool) (w : World) (hr0 : Kd.C (Kd.int .i64) w A0 l0.length l0) (hc0 : l0.length ≤ c0) (hr1 : Kd.C (Kd.int .i64) w A1 l1.length l1) (hc1 : l1.length ≤ c1) (h : laws_eqIntS.f k l0 l1 = some r) :
  Calls Try.prog 14 #[.slice A0 l0.length c0, .slice A1 l1.length c1] w fun e w' => e = .returned (.bool r) ∧ Drawn0 w w' := by
 have HR0 := Aside0.mk hr0
 have HC0 := Aside0.mk hc0
 clear hr0 hc0
 have HR1 := Aside0.mk hr1
 have HC1 := Aside0.mk hc1
 clear hr1 hc1
 have H := h
 unfold laws_eqIntS.f at H
 clear h
 replace H := sqi H
 rcases H with ⟨c3, H⟩ | ⟨c3, H⟩
 ·have c3b0 : ((l0.length : Int) == (l1.length : Int)) = false := beq_eq_false_iff_ne.mpr c3
  have c3b1 : ((l0.length : Int) != (l1.length : Int)) = true := bne_iff_ne.mpr c3
  have c3b2 : (l0.length == l1.length) = false := by first | simpa using c3 | (simp at c3 ⊢; omega)
  obtain rfl := Option.some.inj H
  go_enter Try.func14, Try.ntmps14
  go_wp2
  repeat (go_quiet (fail); try go_wp2)
  go_ret
  exact ⟨by first | rfl | (simp; done) | (simp [*]; done), by repeat (first | exact Drawn0.refl _ | apply Drawn0.step)⟩
 have c3b0 : ((l0.length : Int) == (l1.length : Int)) = true := beq_iff_eq.mpr c3
 have c3b1 : ((l0.length : Int) != (l1.length : Int)) = false := bne_eq_false_iff_eq.mpr c3
 have c3b2 : (l0.length == l1.length) = true := by first | simpa using c3 | (simp at c3 ⊢; omega)
 clear c3
 have H' := Aside0.mk H
 clear H
 go_enter Try.func14, Try.ntmps14
 go_wp2
 repeat (go_quiet (fail); try go_wp2)
 go_loopg [5] k (fun kq v5 w' => ∃ (x5_1 : Int), v5 = .int .i64 x5_1 ∧ Aside0 (laws_eqIntS.l0 kq l0 l1 x5_1 = some r) ∧ Aside0 (kq ≤ k) ∧ Drawn0 w w')
 case atStart => exact ⟨(0), (by first | rfl | (simp; done) | (simp [*]; done)), H', ⟨Nat.le_refl _⟩, by repeat (first | exact Drawn0.refl _ | apply Drawn0.step)⟩
 case round =>
  clear H'
  obtain ⟨x5_1, rfl, HA, HK1, ⟨m1, rfl⟩⟩ := hrel
  cases gk with
  | zero => exact absurd HA.out (by simp [laws_eqIntS.l0])
  | succ k1 =>
   have H := HA.out
   clear HA
   simp only [laws_eqIntS.l0] at H
   replace H := sqi H
   rcases H with ⟨c4, H⟩ | ⟨c4, H⟩
   ·have c4b0 := decide_eq_false c4
    clear c4
    obtain rfl := Option.some.inj H
    go_wp2
    repeat (go_quiet (fail); try go_wp2)
    go_ret
    exact ⟨by first | rfl | (simp; done) | (simp [*]; done), by repeat (first | exact Drawn0.refl _ | apply Drawn0.step)⟩
   have c4b0 := decide_eq_true c4
   clear c4
   replace H := sqi H
   rcases H with ⟨c5, H⟩ | ⟨c5, H⟩
   ·exact absurd H (by simp)
   have c5b0 := decide_eq_true c5
   clear c5
   replace H := sqi H
   rcases H with ⟨c6, H⟩ | ⟨c6, H⟩
   ·exact absurd H (by simp)
   have c6b0 := decide_eq_true c6
   clear c6
   replace H := sqi H
   rcases H with ⟨c7, H⟩ | ⟨c7, H⟩
   ·have c7b0 : ((rd l0 x5_1) == (rd l1 x5_1)) = false := beq_eq_false_iff_ne.mpr c7
    have c7b1 : ((rd l0 x5_1) != (rd l1 x5_1)) = true := bne_iff_ne.mpr c7
    obtain rfl := Option.some.inj H
    have p476 : 0 ≤ (x5_1 : Int) := sqd
    have q476 : x5_1 < (l0.length : Int) := sqd
    obtain ⟨ad476, e476, hx476_0⟩ := Kd.at_int HR0.out x5_1 p476 q476
    cases e476
    replace p476 := eq_true p476
    replace q476 := eq_true q476
    have p477 : 0 ≤ (x5_1 : Int) := sqd
    have q477 : x5_1 < (l1.length : Int) := sqd
    obtain ⟨ad477, e477, hx477_0⟩ := Kd.at_int HR1.out x5_1 p477 q477
    cases e477
    replace p477 := eq_true p477
    replace q477 := eq_true q477
    go_wp2
    repeat (go_quiet (fail); try go_wp2)
    go_ret
    exact ⟨by first | rfl | (simp; done) | (simp [*]; done), by repeat (first | exact Drawn0.refl _ | apply Drawn0.step)⟩
   have c7b0 : ((rd l0 x5_1) == (rd l1 x5_1)) = true := beq_iff_eq.mpr c7
   have c7b1 : ((rd l0 x5_1) != (rd l1 x5_1)) = false := bne_eq_false_iff_eq.mpr c7
   clear c7
   have H' := Aside0.mk H
   clear H
   have p476 : 0 ≤ (x5_1 : Int) := sqd
   have q476 : x5_1 < (l0.length : Int) := sqd
   obtain ⟨ad476, e476, hx476_0⟩ := Kd.at_int HR0.out x5_1 p476 q476
   cases e476
   replace p476 := eq_true p476
   replace q476 := eq_true q476
   have p477 : 0 ≤ (x5_1 : Int) := sqd
   have q477 : x5_1 < (l1.length : Int) := sqd
   obtain ⟨ad477, e477, hx477_0⟩ := Kd.at_int HR1.out x5_1 p477 q477
   cases e477
   replace p477 := eq_true p477
   replace q477 := eq_true q477
   go_wp2
   repeat (go_quiet (fail); try go_wp2)
   go_roundg k1
   case measure => have := HK1.out; omega
   case rel => exact ⟨(wrap64 (x5_1 + 1)), (by first | rfl | (simp; done) | (simp [*]; done)), H', ⟨by have := HK1.out; omega⟩, by repeat (first | exact Drawn0.refl _ | apply Drawn0.step)⟩

/-! ### laws_eqRefVal: function 67 -/
set_option maxHeartbeats 8000000 in
set_option maxRecDepth 100000 in
theorem laws_eqRefVal.calls (k : Nat) (a0_0 : Bool) (A0_1 : Option Addr) (c0_1 : Nat) (l0_1 : List Int) (a0_2 : Int) (a0_3 : Int) (a0_4 : Int) (a0_5 : Int) (a1_0 : Bool) (A1_1 : Option Addr) (c1_1 : Nat) (l1_1 : List Int) (a1_2 : Int) (a1_3 : Int) (a1_4 : Int) (a1_5 : Int) (r : Bool) (w : World) (hr0_1 : Kd.C (Kd.int .i64) w A0_1 l0_1.length l0_1) (hc0_1 : l0_1.length ≤ c0_1) (hr1_1 : Kd.C (Kd.int .i64) w A1_1 l1_1.length l1_1) (hc1_1 : l1_1.length ≤ c1_1) (h : laws_eqRefVal.f k a0_0 l0_1 a0_2 a0_3 a0_4 a0_5 a1_0 l1_1 a1_2 a1_3 a1_4 a1_5 = some r) :
  Calls Try.prog 67 #[.agg #[.bool a0_0, .slice A0_1 l0_1.length c0_1, .int .i64 a0_2, .int .i64 a0_3, .int .i64 a0_4, .int .i64 a0_5], .agg #[.bool a1_0, .slice A1_1 l1_1.length c1_1, .int .i64 a1_2, .int .i64 a1_3, .int .i64 a1_4, .int .i64 a1_5]] w fun e w' => e = .returned (.bool r) ∧ Below w.heap.size w w' := by
 have hu63 := Try.underlying63
 have hu60 := Try.underlying60
 have HR0_1 := Aside0.mk hr0_1
 have HC0_1 := Aside0.mk hc0_1
 clear hr0_1 hc0_1
 have HR1_1 := Aside0.mk hr1_1
 have HC1_1 := Aside0.mk hc1_1
 clear hr1_1 hc1_1
 have HB := Aside0.mk (Below.refl w.heap.size w)
 have H := h
 unfold laws_eqRefVal.f at H
 clear h
 replace H := sqj H
 rcases H with ⟨c3, H⟩ | ⟨c3, H⟩
 ·have c3b0 : (a0_0 != a1_0) = true := c3
  (try (have c3b1 : decide (a0_0 = a1_0) = false := by simpa using c3))
  (try (have c3b2 : (a0_0 == a1_0) = false := by simpa using c3))
  (try (have c3b3 : ¬ (a0_0 = a1_0) := by simpa using c3))
  clear c3
  obtain rfl := Option.some.inj H
  go_enter Try.func67, Try.ntmps67
  go_wp2_with (first | ((with_reducible refine gate_dst (N := 2) rfl ?_); refine sqx 2 #[.bool a0_0, .slice A0_1 l0_1.length c0_1, .int .i64 a0_2, .int .i64 a0_3, .int .i64 a0_4, .int .i64 a0_5] 63 ?_; intro gb478 hg w4 hbox hb; have BK478 := Aside0.mk hbox; have GW478 := sqg HB hg; have GE478 := sqg HB hg; replace HB := sqs HB hb; clear hb hbox hg) | ((with_reducible refine gate_dst (N := 3) rfl ?_); refine sqx 3 #[.bool a1_0, .slice A1_1 l1_1.length c1_1, .int .i64 a1_2, .int .i64 a1_3, .int .i64 a1_4, .int .i64 a1_5] 63 ?_; intro gb479 hg w5 hbox hb; have BK479 := Aside0.mk hbox; have GW479 := sqg HB hg; have GE479 := sqg HB hg; have NB478_479 := sqn BK478 hg; have NB479_478 := sqm BK478 hg; replace BK478 := sqb BK478 hb; replace HB := sqs HB hb; clear hb hbox hg; have hnb6 := NB478_479.out; have hnc6 := NB479_478.out; obtain ⟨hcz7_0, hcz7_1, hcz7_2, hcz7_3, hcz7_4, hcz7_5, hfz7_0, hfz7_1, hfz7_2, hfz7_3, hfz7_4, hfz7_5⟩ := sqc6 BK478; obtain ⟨hcz8_0, hcz8_1, hcz8_2, hcz8_3, hcz8_4, hcz8_5, hfz8_0, hfz8_1, hfz8_2, hfz8_3, hfz8_4, hfz8_5⟩ := sqc6 BK479))
  go_ret
  exact sqe HB
 have c3b0 : (a0_0 != a1_0) = false := by simpa using c3
 (try (have c3b1 : decide (a0_0 = a1_0) = true := by simpa using c3))
 (try (have c3b2 : (a0_0 == a1_0) = true := by simpa using c3))
 clear c3
 replace H := Option.bind_eq_some_iff.mp H
 obtain ⟨t480, A90, H⟩ := H
 try dsimp only at H
 have A9 := Aside0.mk A90
 clear A90
 rcases sqI (t480 = true) with c10 | c10
 ·replace c10 := Bool.eq_false_iff.mpr c10
  subst c10
  have H1 : (some false) = some r := by rw [if_neg (show ¬ (false = true) by decide)] at H; exact H
  clear H
  have H := H1
  clear H1
  obtain rfl := Option.some.inj H
  go_enter Try.func67, Try.ntmps67
  go_wp2_with (first | ((with_reducible refine gate_dst (N := 2) rfl ?_); refine sqx 2 #[.bool a0_0, .slice A0_1 l0_1.length c0_1, .int .i64 a0_2, .int .i64 a0_3, .int .i64 a0_4, .int .i64 a0_5] 63 ?_; intro gb478 hg w25 hbox hb; have BK478 := Aside0.mk hbox; have GW478 := sqg HB hg; have GE478 := sqg HB hg; replace HB := sqs HB hb; clear hb hbox hg) | ((with_reducible refine gate_dst (N := 3) rfl ?_); refine sqx 3 #[.bool a1_0, .slice A1_1 l1_1.length c1_1, .int .i64 a1_2, .int .i64 a1_3, .int .i64 a1_4, .int .i64 a1_5] 63 ?_; intro gb479 hg w26 hbox hb; have BK479 := Aside0.mk hbox; have GW479 := sqg HB hg; have GE479 := sqg HB hg; have NB478_479 := sqn BK478 hg; have NB479_478 := sqm BK478 hg; replace BK478 := sqb BK478 hb; replace HB := sqs HB hb; clear hb hbox hg; have hnb27 := NB478_479.out; have hnc27 := NB479_478.out; obtain ⟨hcz28_0, hcz28_1, hcz28_2, hcz28_3, hcz28_4, hcz28_5, hfz28_0, hfz28_1, hfz28_2, hfz28_3, hfz28_4, hfz28_5⟩ := sqc6 BK478; obtain ⟨hcz29_0, hcz29_1, hcz29_2, hcz29_3, hcz29_4, hcz29_5, hfz29_0, hfz29_1, hfz29_2, hfz29_3, hfz29_4, hfz29_5⟩ := sqc6 BK479) | ((with_reducible refine gate_callee (f := 14) rfl ?_); refine sqL (some 14) Try.func14 #[.slice A0_1 l0_1.length c0_1, .slice A1_1 l1_1.length c1_1] ?_; (with_reducible refine (laws_eqIntS.calls k _ _ l0_1 _ _ l1_1 false _ ?side1 ?side2 ?side3 ?side4 A9.out).mono ?_); (case side1 => exact sqC (Kd.C_below HR0_1.out HB.out)); (case side2 => exact HC0_1.out); (case side3 => exact sqC (Kd.C_below HR1_1.out HB.out)); (case side4 => exact HC1_1.out); rintro e w' ⟨rfl, ⟨nd, rfl⟩⟩; refine ⟨_, rfl, ?_⟩))
  go_ret
  exact sqe HB
 subst c10
 have H1 : ((laws_eqVal.f a0_2 a0_3 a0_4 a0_5 a1_2 a1_3 a1_4 a1_5).bind fun t481 => (if t481 = true then (some true) else (some false))) = some r := by rw [if_pos rfl] at H; exact H
 clear H
 have H := H1
 clear H1
 replace H := Option.bind_eq_some_iff.mp H
 obtain ⟨t481, A110, H⟩ := H
 try dsimp only at H
 have A11 := Aside0.mk A110
 clear A110
 by_cases c12 : t481 = true
 ·subst c12
  have H1 : (some true) = some r := by rw [if_pos rfl] at H; exact H
  clear H
  have H := H1
  clear H1
  obtain rfl := Option.some.inj H
  go_enter Try.func67, Try.ntmps67
  go_wp2_with (first | ((with_reducible refine gate_dst (N := 2) rfl ?_); refine sqx 2 #[.bool a0_0, .slice A0_1 l0_1.length c0_1, .int .i64 a0_2, .int .i64 a0_3, .int .i64 a0_4, .int .i64 a0_5] 63 ?_; intro gb478 hg w13 hbox hb; have BK478 := Aside0.mk hbox; have GW478 := sqg HB hg; have GE478 := sqg HB hg; replace HB := sqs HB hb; clear hb hbox hg) | ((with_reducible refine gate_dst (N := 3) rfl ?_); refine sqx 3 #[.bool a1_0, .slice A1_1 l1_1.length c1_1, .int .i64 a1_2, .int .i64 a1_3, .int .i64 a1_4, .int .i64 a1_5] 63 ?_; intro gb479 hg w14 hbox hb; have BK479 := Aside0.mk hbox; have GW479 := sqg HB hg; have GE479 := sqg HB hg; have NB478_479 := sqn BK478 hg; have NB479_478 := sqm BK478 hg; replace BK478 := sqb BK478 hb; replace HB := sqs HB hb; clear hb hbox hg; have hnb15 := NB478_479.out; have hnc15 := NB479_478.out; obtain ⟨hcz16_0, hcz16_1, hcz16_2, hcz16_3, hcz16_4, hcz16_5, hfz16_0, hfz16_1, hfz16_2, hfz16_3, hfz16_4, hfz16_5⟩ := sqc6 BK478; obtain ⟨hcz17_0, hcz17_1, hcz17_2, hcz17_3, hcz17_4, hcz17_5, hfz17_0, hfz17_1, hfz17_2, hfz17_3, hfz17_4, hfz17_5⟩ := sqc6 BK479) | ((with_reducible refine gate_callee (f := 14) rfl ?_); refine sqL (some 14) Try.func14 #[.slice A0_1 l0_1.length c0_1, .slice A1_1 l1_1.length c1_1] ?_; (with_reducible refine (laws_eqIntS.calls k _ _ l0_1 _ _ l1_1 true _ ?side1 ?side2 ?side3 ?side4 A9.out).mono ?_); (case side1 => exact sqC (Kd.C_below HR0_1.out HB.out)); (case side2 => exact HC0_1.out); (case side3 => exact sqC (Kd.C_below HR1_1.out HB.out)); (case side4 => exact HC1_1.out); rintro e w' ⟨rfl, ⟨nd, rfl⟩⟩; refine ⟨_, rfl, ?_⟩) | ((with_reducible refine gate_callee (f := 66) rfl ?_); refine sqL (some 20) Try.func66 #[.agg #[.int .i64 a0_2, .int .i64 a0_3, .int .i64 a0_4, .int .i64 a0_5], .agg #[.int .i64 a1_2, .int .i64 a1_3, .int .i64 a1_4, .int .i64 a1_5]] ?_; (with_reducible refine (laws_eqVal.calls a0_2 a0_3 a0_4 a0_5 a1_2 a1_3 a1_4 a1_5 true _ A11.out).mono ?_); rintro e w18 ⟨rfl, hb⟩; refine ⟨_, rfl, ?_⟩; refine sqM2 BK478 BK479 hb ?_; clear BK478 BK479; intro BK478 BK479; replace HB := sqs HB hb; (try clear hb)))
  go_ret
  exact sqe HB
 replace c12 := Bool.eq_false_iff.mpr c12
 subst c12
 have H1 : (some false) = some r := by rw [if_neg (show ¬ (false = true) by decide)] at H; exact H
 clear H
 have H := H1
 clear H1
 obtain rfl := Option.some.inj H
 go_enter Try.func67, Try.ntmps67
 go_wp2_with (first | ((with_reducible refine gate_dst (N := 2) rfl ?_); refine sqx 2 #[.bool a0_0, .slice A0_1 l0_1.length c0_1, .int .i64 a0_2, .int .i64 a0_3, .int .i64 a0_4, .int .i64 a0_5] 63 ?_; intro gb478 hg w19 hbox hb; have BK478 := Aside0.mk hbox; have GW478 := sqg HB hg; have GE478 := sqg HB hg; replace HB := sqs HB hb; clear hb hbox hg) | ((with_reducible refine gate_dst (N := 3) rfl ?_); refine sqx 3 #[.bool a1_0, .slice A1_1 l1_1.length c1_1, .int .i64 a1_2, .int .i64 a1_3, .int .i64 a1_4, .int .i64 a1_5] 63 ?_; intro gb479 hg w20 hbox hb; have BK479 := Aside0.mk hbox; have GW479 := sqg HB hg; have GE479 := sqg HB hg; have NB478_479 := sqn BK478 hg; have NB479_478 := sqm BK478 hg; replace BK478 := sqb BK478 hb; replace HB := sqs HB hb; clear hb hbox hg; have hnb21 := NB478_479.out; have hnc21 := NB479_478.out; obtain ⟨hcz22_0, hcz22_1, hcz22_2, hcz22_3, hcz22_4, hcz22_5, hfz22_0, hfz22_1, hfz22_2, hfz22_3, hfz22_4, hfz22_5⟩ := sqc6 BK478; obtain ⟨hcz23_0, hcz23_1, hcz23_2, hcz23_3, hcz23_4, hcz23_5, hfz23_0, hfz23_1, hfz23_2, hfz23_3, hfz23_4, hfz23_5⟩ := sqc6 BK479) | ((with_reducible refine gate_callee (f := 14) rfl ?_); refine sqL (some 14) Try.func14 #[.slice A0_1 l0_1.length c0_1, .slice A1_1 l1_1.length c1_1] ?_; (with_reducible refine (laws_eqIntS.calls k _ _ l0_1 _ _ l1_1 true _ ?side1 ?side2 ?side3 ?side4 A9.out).mono ?_); (case side1 => exact sqC (Kd.C_below HR0_1.out HB.out)); (case side2 => exact HC0_1.out); (case side3 => exact sqC (Kd.C_below HR1_1.out HB.out)); (case side4 => exact HC1_1.out); rintro e w' ⟨rfl, ⟨nd, rfl⟩⟩; refine ⟨_, rfl, ?_⟩) | ((with_reducible refine gate_callee (f := 66) rfl ?_); refine sqL (some 20) Try.func66 #[.agg #[.int .i64 a0_2, .int .i64 a0_3, .int .i64 a0_4, .int .i64 a0_5], .agg #[.int .i64 a1_2, .int .i64 a1_3, .int .i64 a1_4, .int .i64 a1_5]] ?_; (with_reducible refine (laws_eqVal.calls a0_2 a0_3 a0_4 a0_5 a1_2 a1_3 a1_4 a1_5 false _ A11.out).mono ?_); rintro e w24 ⟨rfl, hb⟩; refine ⟨_, rfl, ?_⟩; refine sqM2 BK478 BK479 hb ?_; clear BK478 BK479; intro BK478 BK479; replace HB := sqs HB hb; (try clear hb)))
 go_ret
 exact sqe HB

end Go.Proofs.Ytnmgckdgmplddaa.PFnExactAbsHas
