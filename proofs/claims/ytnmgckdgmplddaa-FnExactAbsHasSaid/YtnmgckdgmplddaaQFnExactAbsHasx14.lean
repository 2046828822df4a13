/- Functions of the program as plain Lean functions, and that calls of them come to what these tell. Conditions: those in each law. -/
import Derived.Test.YtnmgckdgmplddaaSq
import Derived.Test.YtnmgckdgmplddaaDFnExactAbsHas
import Derived.Test.YtnmgckdgmplddaaQFnExactAbsHasx0
import Derived.Test.YtnmgckdgmplddaaQFnExactAbsHasx10
import Derived.Test.YtnmgckdgmplddaaQFnExactAbsHasx11
import Derived.Test.YtnmgckdgmplddaaQFnExactAbsHasx12
import Derived.Test.YtnmgckdgmplddaaQFnExactAbsHasx13
namespace Go.Proofs.Ytnmgckdgmplddaa.PFnExactAbsHas
open Go.RowKit Go.Proofs.Ytnmgckdgmplddaa.Sq Go.Proofs.YtnmgckdgmplddaaW.PrintWords Go.Proofs.YtnmgckdgmplddaaW.PrintLast Go.Proofs.YtnmgckdgmplddaaW.PrintMore
attribute [local go_sem] max2_int min2_int max_two min_two max_three min_three max_four min_four   -- for this text's walks alone
set_option linter.unusedVariables false
set_option linter.unusedSimpArgs false

/-! ### spec_AbsHas: function 7 -/
def spec_AbsHas.T6 : Bool × List (List Nat × List Nat) := (true, [([], []), ([0], [0]), ([], []), ([1, 2], [1, 2]), ([3], [3]), ([], []), ([], []), ([5, 6], [5, 6]), ([7], [7]), ([4, 8], [4, 8]), ([9], [9])])
def spec_AbsHas.B6 : List Nat := [0, 1, 0, 7, 15, 0, 0, 96, 224, 511, 1023]
theorem spec_AbsHas.tab6 : rtab .any (opsOf Try.f7 6) = spec_AbsHas.T6 := by kernel_rfl
theorem spec_AbsHas.bits6 : waitsOk spec_AbsHas.T6.2 spec_AbsHas.B6 = true := by kernel_rfl
def spec_AbsHas.T11 : Bool × List (List Nat × List Nat) := (true, [([], []), ([0], [0]), ([], []), ([1, 2], [1, 2]), ([3], [3]), ([], []), ([], []), ([5, 6], [5, 6]), ([7], [7]), ([4, 8], [4, 8]), ([9], [9])])
def spec_AbsHas.B11 : List Nat := [0, 1, 0, 7, 15, 0, 0, 96, 224, 511, 1023]
theorem spec_AbsHas.tab11 : rtab .any (opsOf Try.f7 11) = spec_AbsHas.T11 := by kernel_rfl
theorem spec_AbsHas.bits11 : waitsOk spec_AbsHas.T11.2 spec_AbsHas.B11 = true := by kernel_rfl
def spec_AbsHas.T19 : Bool × List (List Nat × List Nat) := (true, [([], []), ([0], [0]), ([], []), ([1, 2], [1, 2]), ([3], [3]), ([], []), ([], []), ([5, 6], [5, 6]), ([7], [7]), ([8], [8]), ([], []), ([9, 10], [9, 10]), ([11], [11]), ([4, 12], [4, 12]), ([13], [13])])
def spec_AbsHas.B19 : List Nat := [0, 1, 0, 7, 15, 0, 0, 96, 224, 480, 0, 2016, 4064, 8191, 16383]
theorem spec_AbsHas.tab19 : rtab .any (opsOf Try.f7 19) = spec_AbsHas.T19 := by kernel_rfl
theorem spec_AbsHas.bits19 : waitsOk spec_AbsHas.T19.2 spec_AbsHas.B19 = true := by kernel_rfl
set_option maxHeartbeats 8000000 in
set_option maxRecDepth 100000 in
theorem spec_AbsHas.calls (k : Nat) (a0_0 : Bool) (A0_1 : Option Addr) (c0_1 : Nat) (l0_1 : List (S60)) (A0_2 : Option Addr) (c0_2 : Nat) (l0_2 : List (S63)) (A0_3 : Option Addr) (c0_3 : Nat) (l0_3 : List (S60)) (a0_4 : Int) (A0_5 : Option Addr) (c0_5 : Nat) (l0_5 : List Int) (A1 : Option Addr) (c1 : Nat) (l1 : List Int) (A2 : Option Addr) (c2 : Nat) (l2 : List (S65)) (A3 : Option Addr) (c3 : Nat) (l3 : List (S66)) (r : Bool) (w : World) (hr0_1 : Kd.C k60 w A0_1 l0_1.length l0_1) (hc0_1 : l0_1.length ≤ c0_1) (hr0_2 : Kd.C k63 w A0_2 l0_2.length l0_2) (hc0_2 : l0_2.length ≤ c0_2) (hr0_3 : Kd.C k60 w A0_3 l0_3.length l0_3) (hc0_3 : l0_3.length ≤ c0_3) (hr0_5 : Kd.C (Kd.int .i64) w A0_5 l0_5.length l0_5) (hc0_5 : l0_5.length ≤ c0_5) (hr1 : Kd.C (Kd.int .i64) w A1 l1.length l1) (hc1 : l1.length ≤ c1) (hr2 : Kd.C k65 w A2 l2.length l2) (hc2 : l2.length ≤ c2) (hr3 : Kd.C k66 w A3 l3.length l3) (hc3 : l3.length ≤ c3) (h : spec_AbsHas.f k a0_0 l0_1 l0_2 l0_3 a0_4 l0_5 l1 l2 l3 = some r) :
  Calls Try.prog 7 #[.agg #[.bool a0_0, .slice A0_1 l0_1.length c0_1, .slice A0_2 l0_2.length c0_2, .slice A0_3 l0_3.length c0_3, .int .i64 a0_4, .slice A0_5 l0_5.length c0_5], .slice A1 l1.length c1, .slice A2 l2.length c2, .slice A3 l3.length c3] w fun e w' => e = .returned (.bool r) ∧ Below w.heap.size w w' := by
 have hu39 := Try.underlying39
 have hu60 := Try.underlying60
 have hu63 := Try.underlying63
 have hu65 := Try.underlying65
 have hu37 := Try.underlying37
 have HR0_1 := Aside0.mk hr0_1
 have HC0_1 := Aside0.mk hc0_1
 clear hr0_1 hc0_1
 have HR0_2 := Aside0.mk hr0_2
 have HC0_2 := Aside0.mk hc0_2
 clear hr0_2 hc0_2
 have HR0_3 := Aside0.mk hr0_3
 have HC0_3 := Aside0.mk hc0_3
 clear hr0_3 hc0_3
 have HR0_5 := Aside0.mk hr0_5
 have HC0_5 := Aside0.mk hc0_5
 clear hr0_5 hc0_5
 have HR1 := Aside0.mk hr1
 have HC1 := Aside0.mk hc1
 clear hr1 hc1
 have HR2 := Aside0.mk hr2
 have HC2 := Aside0.mk hc2
 clear hr2 hc2
 have HR3 := Aside0.mk hr3
 have HC3 := Aside0.mk hc3
 clear hr3 hc3
 have HB := Aside0.mk (Below.refl w.heap.size w)
 have H := h
 unfold spec_AbsHas.f at H
 clear h
 have HC5 := Aside0.mk H
 clear H
 go_enter Try.func7, Try.ntmps7
 go_upto_region 1 with (first | ((with_reducible refine gate_dst (N := 4) rfl ?_); (try (refine gate_guard (by rfl) ?_; dsimp only)); refine sqx 4 #[.bool a0_0, .slice A0_1 l0_1.length c0_1, .slice A0_2 l0_2.length c0_2, .slice A0_3 l0_3.length c0_3, .int .i64 a0_4, .slice A0_5 l0_5.length c0_5] 39 ?_; intro gb242 hg w6 hbox hb; have BK242 := Aside0.mk hbox; have GW242 := sqg HB hg; have GE242 := sqg HB hg; replace HB := sqs HB hb; clear hb hbox hg))
 (try simp only [Act.put, List.setIfInBounds_toArray, List.set_cons_zero, List.set_cons_succ])
 go_cut [44] (fun v44 wc => ∃ (kq : Nat) (x44_4 : Bool), v44 = .bool x44_4 ∧ Aside0 (spec_AbsHas.j0 kq l1 l2 l3 x44_4 a0_0 l0_1 l0_2 l0_3 a0_4 l0_5 = some r) ∧ Aside0 (kq ≤ k) ∧ Aside0 (wc.heap[gb242]? = some (.cells #[.bool a0_0, (.slice A0_1 l0_1.length c0_1), (.slice A0_2 l0_2.length c0_2), (.slice A0_3 l0_3.length c0_3), .int .i64 a0_4, (.slice A0_5 l0_5.length c0_5)] 39 (0, 0))) ∧ Aside0 (Below w.heap.size w wc))
 case first =>
  have H := HC5.out
  clear HC5
  replace H := Option.bind_eq_some_iff.mp H
  obtain ⟨t243, A70, H⟩ := H
  try dsimp only at H
  have A7 := Aside0.mk A70
  clear A70
  rcases sqI (t243 = true) with c8 | c8
  ·replace c8 := Bool.eq_false_iff.mpr c8
   subst c8
   have H1 : (spec_AbsHas.j0 k l1 l2 l3 true a0_0 l0_1 l0_2 l0_3 a0_4 l0_5) = some r := by rw [if_neg (show ¬ (false = true) by decide)] at H; exact H
   clear H
   have H := H1
   clear H1
   have H' := Aside0.mk H
   clear H
   obtain ⟨hcz24_0, hcz24_1, hcz24_2, hcz24_3, hcz24_4, hcz24_5, hfz24_0, hfz24_1, hfz24_2, hfz24_3, hfz24_4, hfz24_5⟩ := sqc6 BK242
   go_wp2_with (first | ((with_reducible refine gate_callee (f := 21) rfl ?_); refine sqL (some 14) Try.func21 #[.agg #[.bool a0_0, .slice A0_1 l0_1.length c0_1, .slice A0_2 l0_2.length c0_2, .slice A0_3 l0_3.length c0_3, .int .i64 a0_4, .slice A0_5 l0_5.length c0_5]] ?_; (with_reducible refine (spec_AbsOk.calls k a0_0 _ _ l0_1 _ _ l0_2 _ _ l0_3 a0_4 _ _ l0_5 false _ ?side1 ?side2 ?side3 ?side4 ?side5 ?side6 ?side7 ?side8 A7.out).mono ?_); (case side1 => exact sqC (Kd.C_below HR0_1.out HB.out)); (case side2 => exact HC0_1.out); (case side3 => exact sqC (Kd.C_below HR0_2.out HB.out)); (case side4 => exact HC0_2.out); (case side5 => exact sqC (Kd.C_below HR0_3.out HB.out)); (case side6 => exact HC0_3.out); (case side7 => exact sqC (Kd.C_below HR0_5.out HB.out)); (case side8 => exact HC0_5.out); rintro e w25 ⟨rfl, hb⟩; refine ⟨_, rfl, ?_⟩; replace BK242 := sqb BK242 hb; replace HB := sqs HB hb; (try clear hb)))
   go_meet
   case rel => exact ⟨_, (true), (by first | rfl | (simp; done) | (simp [*]; done)), H', ⟨by first | omega | exact Nat.le_refl _⟩, sqk BK242, sqh HB⟩
  subst c8
  have H1 : (if a0_0 = true then (if (l1.length : Int) = (l0_1.length : Int) then (if (l2.length : Int) = (l0_2.length : Int) then (spec_AbsHas.j0 k l1 l2 l3 ((l3.length : Int) != (l0_3.length : Int)) a0_0 l0_1 l0_2 l0_3 a0_4 l0_5) else (spec_AbsHas.j0 k l1 l2 l3 true a0_0 l0_1 l0_2 l0_3 a0_4 l0_5)) else (spec_AbsHas.j0 k l1 l2 l3 true a0_0 l0_1 l0_2 l0_3 a0_4 l0_5)) else (spec_AbsHas.j0 k l1 l2 l3 true a0_0 l0_1 l0_2 l0_3 a0_4 l0_5)) = some r := by rw [if_pos rfl] at H; exact H
  clear H
  have H := H1
  clear H1
  rcases sqI (a0_0 = true) with c9 | c9
  ·replace c9 := Bool.eq_false_iff.mpr c9
   subst c9
   have H1 : (spec_AbsHas.j0 k l1 l2 l3 true false l0_1 l0_2 l0_3 a0_4 l0_5) = some r := by rw [if_neg (show ¬ (false = true) by decide)] at H; exact H
   clear H
   have H := H1
   clear H1
   have H' := Aside0.mk H
   clear H
   obtain ⟨hcz21_0, hcz21_1, hcz21_2, hcz21_3, hcz21_4, hcz21_5, hfz21_0, hfz21_1, hfz21_2, hfz21_3, hfz21_4, hfz21_5⟩ := sqc6 BK242
   go_wp2_with (first | ((with_reducible refine gate_callee (f := 21) rfl ?_); refine sqL (some 14) Try.func21 #[.agg #[.bool false, .slice A0_1 l0_1.length c0_1, .slice A0_2 l0_2.length c0_2, .slice A0_3 l0_3.length c0_3, .int .i64 a0_4, .slice A0_5 l0_5.length c0_5]] ?_; (with_reducible refine (spec_AbsOk.calls k false _ _ l0_1 _ _ l0_2 _ _ l0_3 a0_4 _ _ l0_5 true _ ?side1 ?side2 ?side3 ?side4 ?side5 ?side6 ?side7 ?side8 A7.out).mono ?_); (case side1 => exact sqC (Kd.C_below HR0_1.out HB.out)); (case side2 => exact HC0_1.out); (case side3 => exact sqC (Kd.C_below HR0_2.out HB.out)); (case side4 => exact HC0_2.out); (case side5 => exact sqC (Kd.C_below HR0_3.out HB.out)); (case side6 => exact HC0_3.out); (case side7 => exact sqC (Kd.C_below HR0_5.out HB.out)); (case side8 => exact HC0_5.out); rintro e w22 ⟨rfl, hb⟩; refine ⟨_, rfl, ?_⟩; replace BK242 := sqb BK242 hb; replace HB := sqs HB hb; (try clear hb); obtain ⟨hcz23_0, hcz23_1, hcz23_2, hcz23_3, hcz23_4, hcz23_5, hfz23_0, hfz23_1, hfz23_2, hfz23_3, hfz23_4, hfz23_5⟩ := sqc6 BK242))
   go_meet
   case rel => exact ⟨_, (true), (by first | rfl | (simp; done) | (simp [*]; done)), H', ⟨by first | omega | exact Nat.le_refl _⟩, sqk BK242, sqh HB⟩
  subst c9
  have H1 : (if (l1.length : Int) = (l0_1.length : Int) then (if (l2.length : Int) = (l0_2.length : Int) then (spec_AbsHas.j0 k l1 l2 l3 ((l3.length : Int) != (l0_3.length : Int)) true l0_1 l0_2 l0_3 a0_4 l0_5) else (spec_AbsHas.j0 k l1 l2 l3 true true l0_1 l0_2 l0_3 a0_4 l0_5)) else (spec_AbsHas.j0 k l1 l2 l3 true true l0_1 l0_2 l0_3 a0_4 l0_5)) = some r := by rw [if_pos rfl] at H; exact H
  clear H
  have H := H1
  clear H1
  replace H := sqi H
  rcases H with ⟨c10, H⟩ | ⟨c10, H⟩
  ·have c10b0 : ((l1.length : Int) == (l0_1.length : Int)) = false := beq_eq_false_iff_ne.mpr c10
   have c10b1 : ((l1.length : Int) != (l0_1.length : Int)) = true := bne_iff_ne.mpr c10
   have c10b2 : (l1.length == l0_1.length) = false := by first | simpa using c10 | (simp at c10 ⊢; omega)
   (first | rw [c10b0] | (simp only [i64_w, i32_w]; rw [c10b0]) | skip)
   have H' := Aside0.mk H
   clear H
   obtain ⟨hcz18_0, hcz18_1, hcz18_2, hcz18_3, hcz18_4, hcz18_5, hfz18_0, hfz18_1, hfz18_2, hfz18_3, hfz18_4, hfz18_5⟩ := sqc6 BK242
   go_wp2_with (first | ((with_reducible refine gate_callee (f := 21) rfl ?_); refine sqL (some 14) Try.func21 #[.agg #[.bool true, .slice A0_1 l0_1.length c0_1, .slice A0_2 l0_2.length c0_2, .slice A0_3 l0_3.length c0_3, .int .i64 a0_4, .slice A0_5 l0_5.length c0_5]] ?_; (with_reducible refine (spec_AbsOk.calls k true _ _ l0_1 _ _ l0_2 _ _ l0_3 a0_4 _ _ l0_5 true _ ?side1 ?side2 ?side3 ?side4 ?side5 ?side6 ?side7 ?side8 A7.out).mono ?_); (case side1 => exact sqC (Kd.C_below HR0_1.out HB.out)); (case side2 => exact HC0_1.out); (case side3 => exact sqC (Kd.C_below HR0_2.out HB.out)); (case side4 => exact HC0_2.out); (case side5 => exact sqC (Kd.C_below HR0_3.out HB.out)); (case side6 => exact HC0_3.out); (case side7 => exact sqC (Kd.C_below HR0_5.out HB.out)); (case side8 => exact HC0_5.out); rintro e w19 ⟨rfl, hb⟩; refine ⟨_, rfl, ?_⟩; replace BK242 := sqb BK242 hb; replace HB := sqs HB hb; (try clear hb); obtain ⟨hcz20_0, hcz20_1, hcz20_2, hcz20_3, hcz20_4, hcz20_5, hfz20_0, hfz20_1, hfz20_2, hfz20_3, hfz20_4, hfz20_5⟩ := sqc6 BK242))
   go_meet
   case rel => exact ⟨_, (true), (by first | rfl | (simp; done) | (simp [*]; done)), H', ⟨by first | omega | exact Nat.le_refl _⟩, sqk BK242, sqh HB⟩
  have c10b0 : ((l1.length : Int) == (l0_1.length : Int)) = true := beq_iff_eq.mpr c10
  have c10b1 : ((l1.length : Int) != (l0_1.length : Int)) = false := bne_eq_false_iff_eq.mpr c10
  have c10b2 : (l1.length == l0_1.length) = true := by first | simpa using c10 | (simp at c10 ⊢; omega)
  clear c10
  (first | rw [c10b0] | (simp only [i64_w, i32_w]; rw [c10b0]) | skip)
  replace H := sqi H
  rcases H with ⟨c11, H⟩ | ⟨c11, H⟩
  ·have c11b0 : ((l2.length : Int) == (l0_2.length : Int)) = false := beq_eq_false_iff_ne.mpr c11
   have c11b1 : ((l2.length : Int) != (l0_2.length : Int)) = true := bne_iff_ne.mpr c11
   have c11b2 : (l2.length == l0_2.length) = false := by first | simpa using c11 | (simp at c11 ⊢; omega)
   have H' := Aside0.mk H
   clear H
   obtain ⟨hcz15_0, hcz15_1, hcz15_2, hcz15_3, hcz15_4, hcz15_5, hfz15_0, hfz15_1, hfz15_2, hfz15_3, hfz15_4, hfz15_5⟩ := sqc6 BK242
   go_wp2_with (first | ((with_reducible refine gate_callee (f := 21) rfl ?_); refine sqL (some 14) Try.func21 #[.agg #[.bool true, .slice A0_1 l0_1.length c0_1, .slice A0_2 l0_2.length c0_2, .slice A0_3 l0_3.length c0_3, .int .i64 a0_4, .slice A0_5 l0_5.length c0_5]] ?_; (with_reducible refine (spec_AbsOk.calls k true _ _ l0_1 _ _ l0_2 _ _ l0_3 a0_4 _ _ l0_5 true _ ?side1 ?side2 ?side3 ?side4 ?side5 ?side6 ?side7 ?side8 A7.out).mono ?_); (case side1 => exact sqC (Kd.C_below HR0_1.out HB.out)); (case side2 => exact HC0_1.out); (case side3 => exact sqC (Kd.C_below HR0_2.out HB.out)); (case side4 => exact HC0_2.out); (case side5 => exact sqC (Kd.C_below HR0_3.out HB.out)); (case side6 => exact HC0_3.out); (case side7 => exact sqC (Kd.C_below HR0_5.out HB.out)); (case side8 => exact HC0_5.out); rintro e w16 ⟨rfl, hb⟩; refine ⟨_, rfl, ?_⟩; replace BK242 := sqb BK242 hb; replace HB := sqs HB hb; (try clear hb); obtain ⟨hcz17_0, hcz17_1, hcz17_2, hcz17_3, hcz17_4, hcz17_5, hfz17_0, hfz17_1, hfz17_2, hfz17_3, hfz17_4, hfz17_5⟩ := sqc6 BK242))
   go_meet
   case rel => exact ⟨_, (true), (by first | rfl | (simp; done) | (simp [*]; done)), H', ⟨by first | omega | exact Nat.le_refl _⟩, sqk BK242, sqh HB⟩
  have c11b0 : ((l2.length : Int) == (l0_2.length : Int)) = true := beq_iff_eq.mpr c11
  have c11b1 : ((l2.length : Int) != (l0_2.length : Int)) = false := bne_eq_false_iff_eq.mpr c11
  have c11b2 : (l2.length == l0_2.length) = true := by first | simpa using c11 | (simp at c11 ⊢; omega)
  clear c11
  have H' := Aside0.mk H
  clear H
  obtain ⟨hcz12_0, hcz12_1, hcz12_2, hcz12_3, hcz12_4, hcz12_5, hfz12_0, hfz12_1, hfz12_2, hfz12_3, hfz12_4, hfz12_5⟩ := sqc6 BK242
  go_wp2_with (first | ((with_reducible refine gate_callee (f := 21) rfl ?_); refine sqL (some 14) Try.func21 #[.agg #[.bool true, .slice A0_1 l0_1.length c0_1, .slice A0_2 l0_2.length c0_2, .slice A0_3 l0_3.length c0_3, .int .i64 a0_4, .slice A0_5 l0_5.length c0_5]] ?_; (with_reducible refine (spec_AbsOk.calls k true _ _ l0_1 _ _ l0_2 _ _ l0_3 a0_4 _ _ l0_5 true _ ?side1 ?side2 ?side3 ?side4 ?side5 ?side6 ?side7 ?side8 A7.out).mono ?_); (case side1 => exact sqC (Kd.C_below HR0_1.out HB.out)); (case side2 => exact HC0_1.out); (case side3 => exact sqC (Kd.C_below HR0_2.out HB.out)); (case side4 => exact HC0_2.out); (case side5 => exact sqC (Kd.C_below HR0_3.out HB.out)); (case side6 => exact HC0_3.out); (case side7 => exact sqC (Kd.C_below HR0_5.out HB.out)); (case side8 => exact HC0_5.out); rintro e w13 ⟨rfl, hb⟩; refine ⟨_, rfl, ?_⟩; replace BK242 := sqb BK242 hb; replace HB := sqs HB hb; (try clear hb); obtain ⟨hcz14_0, hcz14_1, hcz14_2, hcz14_3, hcz14_4, hcz14_5, hfz14_0, hfz14_1, hfz14_2, hfz14_3, hfz14_4, hfz14_5⟩ := sqc6 BK242))
  go_meet
  case rel => exact ⟨_, (((l3.length : Int) != (l0_3.length : Int))), (by first | rfl | (simp; done) | (simp [*]; done)), H', ⟨by first | omega | exact Nat.le_refl _⟩, sqk BK242, sqh HB⟩
 case rest =>
  clear HC5
  obtain ⟨kq, x44_4, rfl, HA, HJ4, BK242, HB⟩ := hcut
  cases kq with
  | zero => exact absurd HA.out (by simp [spec_AbsHas.j0])
  | succ kj4 =>
   have H := HA.out
   clear HA
   simp only [spec_AbsHas.j0] at H
   by_cases c26 : x44_4 = true
   ·subst c26
    have H1 : (some false) = some r := by rw [if_pos rfl] at H; exact H
    clear H
    have H := H1
    clear H1
    obtain rfl := Option.some.inj H
    go_wp2
    go_ret
    exact sqe HB
   replace c26 := Bool.eq_false_iff.mpr c26
   subst c26
   have H1 : (spec_AbsHas.l0 kj4 l1 l2 l3 0 a0_0 l0_1 l0_2 l0_3 a0_4 l0_5) = some r := by rw [if_neg (show ¬ (false = true) by decide)] at H; exact H
   clear H
   have H := H1
   clear H1
   have H' := Aside0.mk H
   clear H
   go_wp2
   go_loopg [9] kj4 (fun kq v9 w' => ∃ (x9_2 : Int), v9 = .int .i64 x9_2 ∧ Aside0 (spec_AbsHas.l0 kq l1 l2 l3 x9_2 a0_0 l0_1 l0_2 l0_3 a0_4 l0_5 = some r) ∧ Aside0 (kq ≤ kj4) ∧ Aside0 (w'.heap[gb242]? = some (.cells #[.bool a0_0, (.slice A0_1 l0_1.length c0_1), (.slice A0_2 l0_2.length c0_2), (.slice A0_3 l0_3.length c0_3), .int .i64 a0_4, (.slice A0_5 l0_5.length c0_5)] 39 (0, 0))) ∧ Aside0 (Below w.heap.size w w'))
   case atStart => exact ⟨(0), (by first | rfl | (simp; done) | (simp [*]; done)), H', ⟨Nat.le_refl _⟩, sqk BK242, sqh HB⟩
   case round =>
    clear H'
    obtain ⟨x9_2, rfl, HA, HK2, BK242, HB⟩ := hrel
    cases gk with
    | zero => exact absurd HA.out (by simp [spec_AbsHas.l0])
    | succ k2 =>
     have H := HA.out
     clear HA
     simp only [spec_AbsHas.l0] at H
     replace H := sqj H
     rcases H with ⟨c27, H⟩ | ⟨c27, H⟩
     ·have c27b0 := decide_eq_true c27
      clear c27
      replace H := sqi H
      rcases H with ⟨c28, H⟩ | ⟨c28, H⟩
      ·exact absurd H (by simp)
      have c28b0 := decide_eq_true c28
      clear c28
      replace H := sqi H
      rcases H with ⟨c29, H⟩ | ⟨c29, H⟩
      ·exact absurd H (by simp)
      have c29b0 := decide_eq_true c29
      clear c29
      replace H := Option.bind_eq_some_iff.mp H
      obtain ⟨t246, A300, H⟩ := H
      try dsimp only at H
      have A30 := Aside0.mk A300
      clear A300
      rcases sqI (t246 = true) with c31 | c31
      ·replace c31 := Bool.eq_false_iff.mpr c31
       subst c31
       have H1 : (some false) = some r := by rw [if_neg (show ¬ (false = true) by decide)] at H; exact H
       clear H
       have H := H1
       clear H1
       obtain rfl := Option.some.inj H
       try go_wp2
       replace BK242 := Aside0.mk (blk_drew BK242.out)
       replace HB := Aside0.mk (below_drew1 HB.out)
       have p244 : 0 ≤ (x9_2 : Int) := sqd
       have q244 : x9_2 < (l0_1.length : Int) := sqd
       obtain ⟨ad244, e244, hx244_0, hx244_1, hx244_2, hx244_3⟩ := at_T60 HR0_1.out x9_2 p244 q244
       have hw244_3 := hx244_3
       have hw244_2 := hx244_2
       have hw244_1 := hx244_1
       have hw244_0 := hx244_0
       cases e244
       replace hx244_0 := sqa HB hx244_0
       replace hx244_1 := sqa HB hx244_1
       replace hx244_2 := sqa HB hx244_2
       replace hx244_3 := sqa HB hx244_3
       replace p244 := eq_true p244
       replace q244 := eq_true q244
       have p245 : 0 ≤ (x9_2 : Int) := sqd
       have q245 : x9_2 < (l1.length : Int) := sqd
       obtain ⟨ad245, e245, hx245_0⟩ := Kd.at_int HR1.out x9_2 p245 q245
       have hw245_0 := hx245_0
       cases e245
       replace hx245_0 := sqa HB hx245_0
       replace p245 := eq_true p245
       replace q245 := eq_true q245
       refine start_ (n := 11) (S := fun w' => w'.cell? ⟨gb242, 0, none⟩ = some (.bool a0_0) ∧ w'.cell? ⟨gb242, 1, none⟩ = some (.slice (some ad244) l0_1.length c0_1) ∧ w'.cell? ⟨gb242, 2, none⟩ = some (.slice A0_2 l0_2.length c0_2) ∧ w'.cell? ⟨gb242, 3, none⟩ = some (.slice A0_3 l0_3.length c0_3) ∧ w'.cell? ⟨gb242, 4, none⟩ = some (.int .i64 a0_4) ∧ w'.cell? ⟨gb242, 5, none⟩ = some (.slice A0_5 l0_5.length c0_5) ∧ w'.cell? (ad244.add ((x9_2).toNat * 4)) = some (.int .i64 ((rd_T60 l0_1 x9_2).f0)) ∧ w'.cell? ⟨(ad244.add ((x9_2).toNat * 4)).block, (ad244.add ((x9_2).toNat * 4)).off + 1, none⟩ = some (.int .i64 ((rd_T60 l0_1 x9_2).f1)) ∧ w'.cell? ⟨(ad244.add ((x9_2).toNat * 4)).block, (ad244.add ((x9_2).toNat * 4)).off + 2, none⟩ = some (.int .i64 ((rd_T60 l0_1 x9_2).f2)) ∧ w'.cell? ⟨(ad244.add ((x9_2).toNat * 4)).block, (ad244.add ((x9_2).toNat * 4)).off + 3, none⟩ = some (.int .i64 ((rd_T60 l0_1 x9_2).f3)) ∧ w'.cell? (ad245.add (x9_2).toNat) = some (.int .i64 (rd l1 x9_2))) (ds := []) #[false, false, false, false, false, false, false, false, false, false, false] (by kernel_rfl) rfl rfl ⟨(blk_cell BK242.out 0).trans rfl, (blk_cell BK242.out 1).trans rfl, (blk_cell BK242.out 2).trans rfl, (blk_cell BK242.out 3).trans rfl, (blk_cell BK242.out 4).trans rfl, (blk_cell BK242.out 5).trans rfl, (sqa HB hw244_0 :), (sqa HB hw244_1 :), (sqa HB hw244_2 :), (sqa HB hw244_3 :), (sqa HB hw245_0 :)⟩ (fun hHeld => ?_); refine with_tabW spec_AbsHas.tab6 spec_AbsHas.bits6 (fun HT_ HW_ => ?_)
       generalize wr.drew = w34 at BK242 HB hx244_0 hx244_1 hx244_2 hx244_3 hx245_0 hHeld ⊢
       refine sqp HT_ 0 51 ?_
       refine sqp HT_ 2 53 ?_
       refine sqp HT_ 5 56 ?_
       refine sqp HT_ 6 57 ?_
       refine sqp HT_ 7 58 ?_
       refine sqw HT_ HW_ 1 52 hHeld ?_
       refine sqp HT_ 3 54 ?_
       refine sqw HT_ HW_ 4 55 hHeld ?_
       refine sqw HT_ HW_ 8 59 hHeld ?_
       refine sqo HT_ 9 60 (fun K hK => ?_)
       refine sqG Try.func22 #[.agg #[.int .i64 ((rd_T60 l0_1 x9_2).f0), .int .i64 ((rd_T60 l0_1 x9_2).f1), .int .i64 ((rd_T60 l0_1 x9_2).f2), .int .i64 ((rd_T60 l0_1 x9_2).f3)], .int .i64 (rd l1 x9_2)] ?_
       with_reducible refine (spec_ValHas.calls k2 ((rd_T60 l0_1 x9_2).f0) ((rd_T60 l0_1 x9_2).f1) ((rd_T60 l0_1 x9_2).f2) ((rd_T60 l0_1 x9_2).f3) (rd l1 x9_2) false _ A30.out).mono ?_
       rintro e w35 ⟨rfl, hb⟩
       refine ⟨_, rfl, ?_⟩
       replace BK242 := sqb BK242 hb
       replace HB := sqs HB hb
       (try clear hb)
       refine hK.out _ _ ⟨(blk_cell BK242.out 0).trans rfl, (blk_cell BK242.out 1).trans rfl, (blk_cell BK242.out 2).trans rfl, (blk_cell BK242.out 3).trans rfl, (blk_cell BK242.out 4).trans rfl, (blk_cell BK242.out 5).trans rfl, (sqa HB hw244_0 :), (sqa HB hw244_1 :), (sqa HB hw244_2 :), (sqa HB hw244_3 :), (sqa HB hw245_0 :)⟩ (fun hHeld => ?_)
       clear hK K
       refine sqnm ?_
       refine sqp HT_ 10 61 ?_
       refine done_ (done_of HT_.out (by kernel_rfl)) ?_
       try go_wp2
       go_ret
       exact sqe HB
      subst c31
      have H1 : (spec_AbsHas.l0 k2 l1 l2 l3 (wrap64 (x9_2 + 1)) a0_0 l0_1 l0_2 l0_3 a0_4 l0_5) = some r := by rw [if_pos rfl] at H; exact H
      clear H
      have H := H1
      clear H1
      have H' := Aside0.mk H
      clear H
      try go_wp2
      replace BK242 := Aside0.mk (blk_drew BK242.out)
      replace HB := Aside0.mk (below_drew1 HB.out)
      have p244 : 0 ≤ (x9_2 : Int) := sqd
      have q244 : x9_2 < (l0_1.length : Int) := sqd
      obtain ⟨ad244, e244, hx244_0, hx244_1, hx244_2, hx244_3⟩ := at_T60 HR0_1.out x9_2 p244 q244
      have hw244_3 := hx244_3
      have hw244_2 := hx244_2
      have hw244_1 := hx244_1
      have hw244_0 := hx244_0
      cases e244
      replace hx244_0 := sqa HB hx244_0
      replace hx244_1 := sqa HB hx244_1
      replace hx244_2 := sqa HB hx244_2
      replace hx244_3 := sqa HB hx244_3
      replace p244 := eq_true p244
      replace q244 := eq_true q244
      have p245 : 0 ≤ (x9_2 : Int) := sqd
      have q245 : x9_2 < (l1.length : Int) := sqd
      obtain ⟨ad245, e245, hx245_0⟩ := Kd.at_int HR1.out x9_2 p245 q245
      have hw245_0 := hx245_0
      cases e245
      replace hx245_0 := sqa HB hx245_0
      replace p245 := eq_true p245
      replace q245 := eq_true q245
      refine start_ (n := 11) (S := fun w' => w'.cell? ⟨gb242, 0, none⟩ = some (.bool a0_0) ∧ w'.cell? ⟨gb242, 1, none⟩ = some (.slice (some ad244) l0_1.length c0_1) ∧ w'.cell? ⟨gb242, 2, none⟩ = some (.slice A0_2 l0_2.length c0_2) ∧ w'.cell? ⟨gb242, 3, none⟩ = some (.slice A0_3 l0_3.length c0_3) ∧ w'.cell? ⟨gb242, 4, none⟩ = some (.int .i64 a0_4) ∧ w'.cell? ⟨gb242, 5, none⟩ = some (.slice A0_5 l0_5.length c0_5) ∧ w'.cell? (ad244.add ((x9_2).toNat * 4)) = some (.int .i64 ((rd_T60 l0_1 x9_2).f0)) ∧ w'.cell? ⟨(ad244.add ((x9_2).toNat * 4)).block, (ad244.add ((x9_2).toNat * 4)).off + 1, none⟩ = some (.int .i64 ((rd_T60 l0_1 x9_2).f1)) ∧ w'.cell? ⟨(ad244.add ((x9_2).toNat * 4)).block, (ad244.add ((x9_2).toNat * 4)).off + 2, none⟩ = some (.int .i64 ((rd_T60 l0_1 x9_2).f2)) ∧ w'.cell? ⟨(ad244.add ((x9_2).toNat * 4)).block, (ad244.add ((x9_2).toNat * 4)).off + 3, none⟩ = some (.int .i64 ((rd_T60 l0_1 x9_2).f3)) ∧ w'.cell? (ad245.add (x9_2).toNat) = some (.int .i64 (rd l1 x9_2))) (ds := []) #[false, false, false, false, false, false, false, false, false, false, false] (by kernel_rfl) rfl rfl ⟨(blk_cell BK242.out 0).trans rfl, (blk_cell BK242.out 1).trans rfl, (blk_cell BK242.out 2).trans rfl, (blk_cell BK242.out 3).trans rfl, (blk_cell BK242.out 4).trans rfl, (blk_cell BK242.out 5).trans rfl, (sqa HB hw244_0 :), (sqa HB hw244_1 :), (sqa HB hw244_2 :), (sqa HB hw244_3 :), (sqa HB hw245_0 :)⟩ (fun hHeld => ?_); refine with_tabW spec_AbsHas.tab6 spec_AbsHas.bits6 (fun HT_ HW_ => ?_)
      generalize wr.drew = w32 at BK242 HB hx244_0 hx244_1 hx244_2 hx244_3 hx245_0 hHeld ⊢
      refine sqp HT_ 0 51 ?_
      refine sqp HT_ 2 53 ?_
      refine sqp HT_ 5 56 ?_
      refine sqp HT_ 6 57 ?_
      refine sqp HT_ 7 58 ?_
      refine sqw HT_ HW_ 1 52 hHeld ?_
      refine sqp HT_ 3 54 ?_
      refine sqw HT_ HW_ 4 55 hHeld ?_
      refine sqw HT_ HW_ 8 59 hHeld ?_
      refine sqo HT_ 9 60 (fun K hK => ?_)
      refine sqG Try.func22 #[.agg #[.int .i64 ((rd_T60 l0_1 x9_2).f0), .int .i64 ((rd_T60 l0_1 x9_2).f1), .int .i64 ((rd_T60 l0_1 x9_2).f2), .int .i64 ((rd_T60 l0_1 x9_2).f3)], .int .i64 (rd l1 x9_2)] ?_
      with_reducible refine (spec_ValHas.calls k2 ((rd_T60 l0_1 x9_2).f0) ((rd_T60 l0_1 x9_2).f1) ((rd_T60 l0_1 x9_2).f2) ((rd_T60 l0_1 x9_2).f3) (rd l1 x9_2) true _ A30.out).mono ?_
      rintro e w33 ⟨rfl, hb⟩
      refine ⟨_, rfl, ?_⟩
      replace BK242 := sqb BK242 hb
      replace HB := sqs HB hb
      (try clear hb)
      refine hK.out _ _ ⟨(blk_cell BK242.out 0).trans rfl, (blk_cell BK242.out 1).trans rfl, (blk_cell BK242.out 2).trans rfl, (blk_cell BK242.out 3).trans rfl, (blk_cell BK242.out 4).trans rfl, (blk_cell BK242.out 5).trans rfl, (sqa HB hw244_0 :), (sqa HB hw244_1 :), (sqa HB hw244_2 :), (sqa HB hw244_3 :), (sqa HB hw245_0 :)⟩ (fun hHeld => ?_)
      clear hK K
      refine sqnm ?_
      refine sqp HT_ 10 61 ?_
      refine done_ (done_of HT_.out (by kernel_rfl)) ?_
      try go_wp2
      go_roundg k2
      case measure => have := HJ4.out; have := HK2.out; omega
      case rel => exact ⟨(wrap64 (x9_2 + 1)), (by first | rfl | (simp; done) | (simp [*]; done)), H', ⟨by have := HJ4.out; have := HK2.out; omega⟩, sqk BK242, sqh HB⟩
     have c27b0 := decide_eq_false c27
     clear c27
     have H' := Aside0.mk H
     clear H
     go_wp2
     go_loopg [10] k2 (fun kq v10 w' => ∃ (x10_3 : Int), v10 = .int .i64 x10_3 ∧ Aside0 (spec_AbsHas.l1 kq l1 l2 l3 x10_3 a0_0 l0_1 l0_2 l0_3 a0_4 l0_5 = some r) ∧ Aside0 (kq ≤ k2) ∧ Aside0 (w'.heap[gb242]? = some (.cells #[.bool a0_0, (.slice A0_1 l0_1.length c0_1), (.slice A0_2 l0_2.length c0_2), (.slice A0_3 l0_3.length c0_3), .int .i64 a0_4, (.slice A0_5 l0_5.length c0_5)] 39 (0, 0))) ∧ Aside0 (Below w.heap.size w w'))
     case atStart => exact ⟨(0), (by first | rfl | (simp; done) | (simp [*]; done)), H', ⟨Nat.le_refl _⟩, sqk BK242, sqh HB⟩
     case round =>
      clear H'
      obtain ⟨x10_3, rfl, HA, HK3, BK242, HB⟩ := hrel
      cases gk with
      | zero => exact absurd HA.out (by simp [spec_AbsHas.l1])
      | succ k3 =>
       have H := HA.out
       clear HA
       simp only [spec_AbsHas.l1] at H
       replace H := sqj H
       rcases H with ⟨c36, H⟩ | ⟨c36, H⟩
       ·have c36b0 := decide_eq_true c36
        clear c36
        replace H := sqi H
        rcases H with ⟨c37, H⟩ | ⟨c37, H⟩
        ·exact absurd H (by simp)
        have c37b0 := decide_eq_true c37
        clear c37
        replace H := sqi H
        rcases H with ⟨c38, H⟩ | ⟨c38, H⟩
        ·exact absurd H (by simp)
        have c38b0 := decide_eq_true c38
        clear c38
        replace H := Option.bind_eq_some_iff.mp H
        obtain ⟨t249, A390, H⟩ := H
        try dsimp only at H
        have A39 := Aside0.mk A390
        clear A390
        rcases sqI (t249 = true) with c40 | c40
        ·replace c40 := Bool.eq_false_iff.mpr c40
         subst c40
         have H1 : (some false) = some r := by rw [if_neg (show ¬ (false = true) by decide)] at H; exact H
         clear H
         have H := H1
         clear H1
         obtain rfl := Option.some.inj H
         try go_wp2
         replace BK242 := Aside0.mk (blk_drew BK242.out)
         replace HB := Aside0.mk (below_drew1 HB.out)
         have p247 : 0 ≤ (x10_3 : Int) := sqd
         have q247 : x10_3 < (l0_2.length : Int) := sqd
         obtain ⟨ad247, A247_1, c247_1, e247, hx247_0, hx247_1, hx247_2, hx247_3, hx247_4, hx247_5, hl247_1, hi247_1⟩ := at_T63 HR0_2.out x10_3 p247 q247
         have hw247_5 := hx247_5
         have hw247_4 := hx247_4
         have hw247_3 := hx247_3
         have hw247_2 := hx247_2
         have hw247_1 := hx247_1
         have hw247_0 := hx247_0
         cases e247
         replace hx247_0 := sqa HB hx247_0
         replace hx247_1 := sqa HB hx247_1
         replace hx247_2 := sqa HB hx247_2
         replace hx247_3 := sqa HB hx247_3
         replace hx247_4 := sqa HB hx247_4
         replace hx247_5 := sqa HB hx247_5
         have HR247_1 := Aside0.mk hi247_1
         have HC247_1 := Aside0.mk hl247_1
         clear hi247_1 hl247_1
         replace p247 := eq_true p247
         replace q247 := eq_true q247
         have p248 : 0 ≤ (x10_3 : Int) := sqd
         have q248 : x10_3 < (l2.length : Int) := sqd
         obtain ⟨ad248, e248, hx248_0, hx248_1⟩ := at_T65 HR2.out x10_3 p248 q248
         have hw248_1 := hx248_1
         have hw248_0 := hx248_0
         cases e248
         replace hx248_0 := sqa HB hx248_0
         replace hx248_1 := sqa HB hx248_1
         replace p248 := eq_true p248
         replace q248 := eq_true q248
         refine start_ (n := 11) (S := fun w' => w'.cell? ⟨gb242, 0, none⟩ = some (.bool a0_0) ∧ w'.cell? ⟨gb242, 1, none⟩ = some (.slice A0_1 l0_1.length c0_1) ∧ w'.cell? ⟨gb242, 2, none⟩ = some (.slice (some ad247) l0_2.length c0_2) ∧ w'.cell? ⟨gb242, 3, none⟩ = some (.slice A0_3 l0_3.length c0_3) ∧ w'.cell? ⟨gb242, 4, none⟩ = some (.int .i64 a0_4) ∧ w'.cell? ⟨gb242, 5, none⟩ = some (.slice A0_5 l0_5.length c0_5) ∧ w'.cell? (ad247.add ((x10_3).toNat * 6)) = some (.bool ((rd_T63 l0_2 x10_3).f0)) ∧ w'.cell? ⟨(ad247.add ((x10_3).toNat * 6)).block, (ad247.add ((x10_3).toNat * 6)).off + 1, none⟩ = some (.slice A247_1 ((rd_T63 l0_2 x10_3).f1).length c247_1) ∧ w'.cell? ⟨(ad247.add ((x10_3).toNat * 6)).block, (ad247.add ((x10_3).toNat * 6)).off + 2, none⟩ = some (.int .i64 ((rd_T63 l0_2 x10_3).f2.f0)) ∧ w'.cell? ⟨(ad247.add ((x10_3).toNat * 6)).block, (ad247.add ((x10_3).toNat * 6)).off + 3, none⟩ = some (.int .i64 ((rd_T63 l0_2 x10_3).f2.f1)) ∧ w'.cell? ⟨(ad247.add ((x10_3).toNat * 6)).block, (ad247.add ((x10_3).toNat * 6)).off + 4, none⟩ = some (.int .i64 ((rd_T63 l0_2 x10_3).f2.f2)) ∧ w'.cell? ⟨(ad247.add ((x10_3).toNat * 6)).block, (ad247.add ((x10_3).toNat * 6)).off + 5, none⟩ = some (.int .i64 ((rd_T63 l0_2 x10_3).f2.f3)) ∧ w'.cell? (ad248.add ((x10_3).toNat * 2)) = some (.int .i64 ((rd_T65 l2 x10_3).f0)) ∧ w'.cell? ⟨(ad248.add ((x10_3).toNat * 2)).block, (ad248.add ((x10_3).toNat * 2)).off + 1, none⟩ = some (.int .i64 ((rd_T65 l2 x10_3).f1))) (ds := []) #[false, false, false, false, false, false, false, false, false, false, false] (by kernel_rfl) rfl rfl ⟨(blk_cell BK242.out 0).trans rfl, (blk_cell BK242.out 1).trans rfl, (blk_cell BK242.out 2).trans rfl, (blk_cell BK242.out 3).trans rfl, (blk_cell BK242.out 4).trans rfl, (blk_cell BK242.out 5).trans rfl, (sqa HB hw247_0 :), (sqa HB hw247_1 :), (sqa HB hw247_2 :), (sqa HB hw247_3 :), (sqa HB hw247_4 :), (sqa HB hw247_5 :), (sqa HB hw248_0 :), (sqa HB hw248_1 :)⟩ (fun hHeld => ?_); refine with_tabW spec_AbsHas.tab11 spec_AbsHas.bits11 (fun HT_ HW_ => ?_)
         generalize wr.drew = w43 at BK242 HB HR247_1 hx247_0 hx247_1 hx247_2 hx247_3 hx247_4 hx247_5 hx248_0 hx248_1 hHeld ⊢
         refine sqp HT_ 0 68 ?_
         refine sqp HT_ 2 70 ?_
         refine sqp HT_ 5 73 ?_
         refine sqp HT_ 6 74 ?_
         refine sqp HT_ 7 75 ?_
         refine sqw HT_ HW_ 1 69 hHeld ?_
         refine sqp HT_ 3 71 ?_
         refine sqw HT_ HW_ 4 72 hHeld ?_
         refine sqw HT_ HW_ 8 76 hHeld ?_
         refine sqo HT_ 9 77 (fun K hK => ?_)
         refine sqG Try.func23 #[.agg #[.bool ((rd_T63 l0_2 x10_3).f0), .slice A247_1 ((rd_T63 l0_2 x10_3).f1).length c247_1, .int .i64 ((rd_T63 l0_2 x10_3).f2.f0), .int .i64 ((rd_T63 l0_2 x10_3).f2.f1), .int .i64 ((rd_T63 l0_2 x10_3).f2.f2), .int .i64 ((rd_T63 l0_2 x10_3).f2.f3)], .agg #[.int .i64 ((rd_T65 l2 x10_3).f0), .int .i64 ((rd_T65 l2 x10_3).f1)]] ?_
         with_reducible refine (spec_l12RefHas.calls k3 ((rd_T63 l0_2 x10_3).f0) _ _ ((rd_T63 l0_2 x10_3).f1) ((rd_T63 l0_2 x10_3).f2.f0) ((rd_T63 l0_2 x10_3).f2.f1) ((rd_T63 l0_2 x10_3).f2.f2) ((rd_T63 l0_2 x10_3).f2.f3) ((rd_T65 l2 x10_3).f0) ((rd_T65 l2 x10_3).f1) false _ ?side1 ?side2 A39.out).mono ?_
         (case side1 => exact sqC (Kd.C_below HR247_1.out HB.out))
         (case side2 => exact HC247_1.out)
         rintro e w44 ⟨rfl, hb⟩
         refine ⟨_, rfl, ?_⟩
         replace BK242 := sqb BK242 hb
         replace HB := sqs HB hb
         (try clear hb)
         refine hK.out _ _ ⟨(blk_cell BK242.out 0).trans rfl, (blk_cell BK242.out 1).trans rfl, (blk_cell BK242.out 2).trans rfl, (blk_cell BK242.out 3).trans rfl, (blk_cell BK242.out 4).trans rfl, (blk_cell BK242.out 5).trans rfl, (sqa HB hw247_0 :), (sqa HB hw247_1 :), (sqa HB hw247_2 :), (sqa HB hw247_3 :), (sqa HB hw247_4 :), (sqa HB hw247_5 :), (sqa HB hw248_0 :), (sqa HB hw248_1 :)⟩ (fun hHeld => ?_)
         clear hK K
         refine sqnm ?_
         refine sqp HT_ 10 78 ?_
         refine done_ (done_of HT_.out (by kernel_rfl)) ?_
         try go_wp2
         go_ret
         exact sqe HB
        subst c40
        have H1 : (spec_AbsHas.l1 k3 l1 l2 l3 (wrap64 (x10_3 + 1)) a0_0 l0_1 l0_2 l0_3 a0_4 l0_5) = some r := by rw [if_pos rfl] at H; exact H
        clear H
        have H := H1
        clear H1
        have H' := Aside0.mk H
        clear H
        try go_wp2
        replace BK242 := Aside0.mk (blk_drew BK242.out)
        replace HB := Aside0.mk (below_drew1 HB.out)
        have p247 : 0 ≤ (x10_3 : Int) := sqd
        have q247 : x10_3 < (l0_2.length : Int) := sqd
        obtain ⟨ad247, A247_1, c247_1, e247, hx247_0, hx247_1, hx247_2, hx247_3, hx247_4, hx247_5, hl247_1, hi247_1⟩ := at_T63 HR0_2.out x10_3 p247 q247
        have hw247_5 := hx247_5
        have hw247_4 := hx247_4
        have hw247_3 := hx247_3
        have hw247_2 := hx247_2
        have hw247_1 := hx247_1
        have hw247_0 := hx247_0
        cases e247
        replace hx247_0 := sqa HB hx247_0
        replace hx247_1 := sqa HB hx247_1
        replace hx247_2 := sqa HB hx247_2
        replace hx247_3 := sqa HB hx247_3
        replace hx247_4 := sqa HB hx247_4
        replace hx247_5 := sqa HB hx247_5
        have HR247_1 := Aside0.mk hi247_1
        have HC247_1 := Aside0.mk hl247_1
        clear hi247_1 hl247_1
        replace p247 := eq_true p247
        replace q247 := eq_true q247
        have p248 : 0 ≤ (x10_3 : Int) := sqd
        have q248 : x10_3 < (l2.length : Int) := sqd
        obtain ⟨ad248, e248, hx248_0, hx248_1⟩ := at_T65 HR2.out x10_3 p248 q248
        have hw248_1 := hx248_1
        have hw248_0 := hx248_0
        cases e248
        replace hx248_0 := sqa HB hx248_0
        replace hx248_1 := sqa HB hx248_1
        replace p248 := eq_true p248
        replace q248 := eq_true q248
        refine start_ (n := 11) (S := fun w' => w'.cell? ⟨gb242, 0, none⟩ = some (.bool a0_0) ∧ w'.cell? ⟨gb242, 1, none⟩ = some (.slice A0_1 l0_1.length c0_1) ∧ w'.cell? ⟨gb242, 2, none⟩ = some (.slice (some ad247) l0_2.length c0_2) ∧ w'.cell? ⟨gb242, 3, none⟩ = some (.slice A0_3 l0_3.length c0_3) ∧ w'.cell? ⟨gb242, 4, none⟩ = some (.int .i64 a0_4) ∧ w'.cell? ⟨gb242, 5, none⟩ = some (.slice A0_5 l0_5.length c0_5) ∧ w'.cell? (ad247.add ((x10_3).toNat * 6)) = some (.bool ((rd_T63 l0_2 x10_3).f0)) ∧ w'.cell? ⟨(ad247.add ((x10_3).toNat * 6)).block, (ad247.add ((x10_3).toNat * 6)).off + 1, none⟩ = some (.slice A247_1 ((rd_T63 l0_2 x10_3).f1).length c247_1) ∧ w'.cell? ⟨(ad247.add ((x10_3).toNat * 6)).block, (ad247.add ((x10_3).toNat * 6)).off + 2, none⟩ = some (.int .i64 ((rd_T63 l0_2 x10_3).f2.f0)) ∧ w'.cell? ⟨(ad247.add ((x10_3).toNat * 6)).block, (ad247.add ((x10_3).toNat * 6)).off + 3, none⟩ = some (.int .i64 ((rd_T63 l0_2 x10_3).f2.f1)) ∧ w'.cell? ⟨(ad247.add ((x10_3).toNat * 6)).block, (ad247.add ((x10_3).toNat * 6)).off + 4, none⟩ = some (.int .i64 ((rd_T63 l0_2 x10_3).f2.f2)) ∧ w'.cell? ⟨(ad247.add ((x10_3).toNat * 6)).block, (ad247.add ((x10_3).toNat * 6)).off + 5, none⟩ = some (.int .i64 ((rd_T63 l0_2 x10_3).f2.f3)) ∧ w'.cell? (ad248.add ((x10_3).toNat * 2)) = some (.int .i64 ((rd_T65 l2 x10_3).f0)) ∧ w'.cell? ⟨(ad248.add ((x10_3).toNat * 2)).block, (ad248.add ((x10_3).toNat * 2)).off + 1, none⟩ = some (.int .i64 ((rd_T65 l2 x10_3).f1))) (ds := []) #[false, false, false, false, false, false, false, false, false, false, false] (by kernel_rfl) rfl rfl ⟨(blk_cell BK242.out 0).trans rfl, (blk_cell BK242.out 1).trans rfl, (blk_cell BK242.out 2).trans rfl, (blk_cell BK242.out 3).trans rfl, (blk_cell BK242.out 4).trans rfl, (blk_cell BK242.out 5).trans rfl, (sqa HB hw247_0 :), (sqa HB hw247_1 :), (sqa HB hw247_2 :), (sqa HB hw247_3 :), (sqa HB hw247_4 :), (sqa HB hw247_5 :), (sqa HB hw248_0 :), (sqa HB hw248_1 :)⟩ (fun hHeld => ?_); refine with_tabW spec_AbsHas.tab11 spec_AbsHas.bits11 (fun HT_ HW_ => ?_)
        generalize wr.drew = w41 at BK242 HB HR247_1 hx247_0 hx247_1 hx247_2 hx247_3 hx247_4 hx247_5 hx248_0 hx248_1 hHeld ⊢
        refine sqp HT_ 0 68 ?_
        refine sqp HT_ 2 70 ?_
        refine sqp HT_ 5 73 ?_
        refine sqp HT_ 6 74 ?_
        refine sqp HT_ 7 75 ?_
        refine sqw HT_ HW_ 1 69 hHeld ?_
        refine sqp HT_ 3 71 ?_
        refine sqw HT_ HW_ 4 72 hHeld ?_
        refine sqw HT_ HW_ 8 76 hHeld ?_
        refine sqo HT_ 9 77 (fun K hK => ?_)
        refine sqG Try.func23 #[.agg #[.bool ((rd_T63 l0_2 x10_3).f0), .slice A247_1 ((rd_T63 l0_2 x10_3).f1).length c247_1, .int .i64 ((rd_T63 l0_2 x10_3).f2.f0), .int .i64 ((rd_T63 l0_2 x10_3).f2.f1), .int .i64 ((rd_T63 l0_2 x10_3).f2.f2), .int .i64 ((rd_T63 l0_2 x10_3).f2.f3)], .agg #[.int .i64 ((rd_T65 l2 x10_3).f0), .int .i64 ((rd_T65 l2 x10_3).f1)]] ?_
        with_reducible refine (spec_l12RefHas.calls k3 ((rd_T63 l0_2 x10_3).f0) _ _ ((rd_T63 l0_2 x10_3).f1) ((rd_T63 l0_2 x10_3).f2.f0) ((rd_T63 l0_2 x10_3).f2.f1) ((rd_T63 l0_2 x10_3).f2.f2) ((rd_T63 l0_2 x10_3).f2.f3) ((rd_T65 l2 x10_3).f0) ((rd_T65 l2 x10_3).f1) true _ ?side1 ?side2 A39.out).mono ?_
        (case side1 => exact sqC (Kd.C_below HR247_1.out HB.out))
        (case side2 => exact HC247_1.out)
        rintro e w42 ⟨rfl, hb⟩
        refine ⟨_, rfl, ?_⟩
        replace BK242 := sqb BK242 hb
        replace HB := sqs HB hb
        (try clear hb)
        refine hK.out _ _ ⟨(blk_cell BK242.out 0).trans rfl, (blk_cell BK242.out 1).trans rfl, (blk_cell BK242.out 2).trans rfl, (blk_cell BK242.out 3).trans rfl, (blk_cell BK242.out 4).trans rfl, (blk_cell BK242.out 5).trans rfl, (sqa HB hw247_0 :), (sqa HB hw247_1 :), (sqa HB hw247_2 :), (sqa HB hw247_3 :), (sqa HB hw247_4 :), (sqa HB hw247_5 :), (sqa HB hw248_0 :), (sqa HB hw248_1 :)⟩ (fun hHeld => ?_)
        clear hK K
        refine sqnm ?_
        refine sqp HT_ 10 78 ?_
        refine done_ (done_of HT_.out (by kernel_rfl)) ?_
        try go_wp2
        go_roundg k3
        case measure => have := HJ4.out; have := HK2.out; have := HK3.out; omega
        case rel => exact ⟨(wrap64 (x10_3 + 1)), (by first | rfl | (simp; done) | (simp [*]; done)), H', ⟨by have := HJ4.out; have := HK2.out; have := HK3.out; omega⟩, sqk BK242, sqh HB⟩
       have c36b0 := decide_eq_false c36
       clear c36
       have H' := Aside0.mk H
       clear H
       go_wp2
       go_loopg [11] k3 (fun kq v11 w' => ∃ (x11_4 : Int), v11 = .int .i64 x11_4 ∧ Aside0 (spec_AbsHas.l2 kq l1 l3 x11_4 a0_0 l0_1 l0_2 l0_3 a0_4 l0_5 = some r) ∧ Aside0 (kq ≤ k3) ∧ Aside0 (w'.heap[gb242]? = some (.cells #[.bool a0_0, (.slice A0_1 l0_1.length c0_1), (.slice A0_2 l0_2.length c0_2), (.slice A0_3 l0_3.length c0_3), .int .i64 a0_4, (.slice A0_5 l0_5.length c0_5)] 39 (0, 0))) ∧ Aside0 (Below w.heap.size w w'))
       case atStart => exact ⟨(0), (by first | rfl | (simp; done) | (simp [*]; done)), H', ⟨Nat.le_refl _⟩, sqk BK242, sqh HB⟩
       case round =>
        clear H'
        obtain ⟨x11_4, rfl, HA, HK4, BK242, HB⟩ := hrel
        cases gk with
        | zero => exact absurd HA.out (by simp [spec_AbsHas.l2])
        | succ k4 =>
         have H := HA.out
         clear HA
         simp only [spec_AbsHas.l2] at H
         replace H := sqi H
         rcases H with ⟨c45, H⟩ | ⟨c45, H⟩
         ·have c45b0 := decide_eq_false c45
          clear c45
          replace H := Option.bind_eq_some_iff.mp H
          obtain ⟨t250, A570, H⟩ := H
          try dsimp only at H
          have A57 := Aside0.mk A570
          clear A570
          obtain rfl := Option.some.inj H
          obtain ⟨hcz58_0, hcz58_1, hcz58_2, hcz58_3, hcz58_4, hcz58_5, hfz58_0, hfz58_1, hfz58_2, hfz58_3, hfz58_4, hfz58_5⟩ := sqc6 BK242
          go_wp2_with (first | ((with_reducible refine gate_callee (f := 24) rfl ?_); refine sqL (some 113) Try.func24 #[.agg #[.int .i64 a0_4, .slice A0_5 l0_5.length c0_5], .slice A1 l1.length c1] ?_; (with_reducible refine (spec_GapsHas.calls k4 a0_4 _ _ l0_5 _ _ l1 t250 _ ?side1 ?side2 ?side3 ?side4 A57.out).mono ?_); (case side1 => exact sqC (Kd.C_below HR0_5.out HB.out)); (case side2 => exact HC0_5.out); (case side3 => exact sqC (Kd.C_below HR1.out HB.out)); (case side4 => exact HC1.out); rintro e w59 ⟨rfl, hb⟩; refine ⟨_, rfl, ?_⟩; replace BK242 := sqb BK242 hb; replace HB := sqs HB hb; (try clear hb)))
          go_ret
          exact sqe HB
         have c45b0 := decide_eq_true c45
         clear c45
         have H' := Aside0.mk H
         clear H
         go_wp2
         go_loopg [12] k4 (fun kq v12 w' => ∃ (x12_5 : Int), v12 = .int .i64 x12_5 ∧ Aside0 (spec_AbsHas.l3 kq l1 l3 x11_4 x12_5 a0_0 l0_1 l0_2 l0_3 a0_4 l0_5 = some r) ∧ Aside0 (kq ≤ k4) ∧ Aside0 (w'.heap[gb242]? = some (.cells #[.bool a0_0, (.slice A0_1 l0_1.length c0_1), (.slice A0_2 l0_2.length c0_2), (.slice A0_3 l0_3.length c0_3), .int .i64 a0_4, (.slice A0_5 l0_5.length c0_5)] 39 (0, 0))) ∧ Aside0 (Below w.heap.size w w'))
         case atStart => exact ⟨(0), (by first | rfl | (simp; done) | (simp [*]; done)), H', ⟨Nat.le_refl _⟩, sqk BK242, sqh HB⟩
         case round =>
          clear H'
          obtain ⟨x12_5, rfl, HA, HK5, BK242, HB⟩ := hrel
          cases gk with
          | zero => exact absurd HA.out (by simp [spec_AbsHas.l3])
          | succ k5 =>
           have H := HA.out
           clear HA
           simp only [spec_AbsHas.l3] at H
           replace H := sqi H
           rcases H with ⟨c46, H⟩ | ⟨c46, H⟩
           ·exact absurd H (by simp)
           have c46b0 := decide_eq_true c46
           clear c46
           replace H := sqi H
           rcases H with ⟨c47, H⟩ | ⟨c47, H⟩
           ·exact absurd H (by simp)
           have c47b0 := decide_eq_true c47
           clear c47
           replace H := sqi H
           rcases H with ⟨c48, H⟩ | ⟨c48, H⟩
           ·have c48b0 := decide_eq_false c48
            clear c48
            have H' := Aside0.mk H
            clear H
            have p251 : 0 ≤ (x11_4 : Int) := sqd
            have q251 : x11_4 < (l3.length : Int) := sqd
            obtain ⟨ad251, A251_0, c251_0, e251, hx251_0, hl251_0, hi251_0⟩ := at_T66 HR3.out x11_4 p251 q251
            cases e251
            replace hx251_0 := sqa HB hx251_0
            have HR251_0 := Aside0.mk hi251_0
            have HC251_0 := Aside0.mk hl251_0
            clear hi251_0 hl251_0
            replace p251 := eq_true p251
            replace q251 := eq_true q251
            go_wp2
            go_roundg k5
            case measure => have := HJ4.out; have := HK2.out; have := HK3.out; have := HK4.out; have := HK5.out; omega
            case rel => exact ⟨(wrap64 (x11_4 + 1)), (by first | rfl | (simp; done) | (simp [*]; done)), H', ⟨by have := HJ4.out; have := HK2.out; have := HK3.out; have := HK4.out; have := HK5.out; omega⟩, sqk BK242, sqh HB⟩
           have c48b0 := decide_eq_true c48
           clear c48
           replace H := sqi H
           rcases H with ⟨c49, H⟩ | ⟨c49, H⟩
           ·exact absurd H (by simp)
           have c49b0 := decide_eq_true c49
           clear c49
           replace H := sqi H
           rcases H with ⟨c50, H⟩ | ⟨c50, H⟩
           ·exact absurd H (by simp)
           have c50b0 := decide_eq_true c50
           clear c50
           replace H := Option.bind_eq_some_iff.mp H
           obtain ⟨t255, A510, H⟩ := H
           try dsimp only at H
           have A51 := Aside0.mk A510
           clear A510
           rcases sqI (t255 = true) with c52 | c52
           ·replace c52 := Bool.eq_false_iff.mpr c52
            subst c52
            have H1 : (some false) = some r := by rw [if_neg (show ¬ (false = true) by decide)] at H; exact H
            clear H
            have H := H1
            clear H1
            obtain rfl := Option.some.inj H
            have p251 : 0 ≤ (x11_4 : Int) := sqd
            have q251 : x11_4 < (l3.length : Int) := sqd
            obtain ⟨ad251, A251_0, c251_0, e251, hx251_0, hl251_0, hi251_0⟩ := at_T66 HR3.out x11_4 p251 q251
            cases e251
            replace hx251_0 := sqa HB hx251_0
            have HR251_0 := Aside0.mk hi251_0
            have HC251_0 := Aside0.mk hl251_0
            clear hi251_0 hl251_0
            replace p251 := eq_true p251
            replace q251 := eq_true q251
            try go_wp2
            replace BK242 := Aside0.mk (blk_drew BK242.out)
            replace HB := Aside0.mk (below_drew1 HB.out)
            have p252 : 0 ≤ (x11_4 : Int) := sqd
            have q252 : x11_4 < (l0_3.length : Int) := sqd
            obtain ⟨ad252, e252, hx252_0, hx252_1, hx252_2, hx252_3⟩ := at_T60 HR0_3.out x11_4 p252 q252
            have hw252_3 := hx252_3
            have hw252_2 := hx252_2
            have hw252_1 := hx252_1
            have hw252_0 := hx252_0
            cases e252
            replace hx252_0 := sqa HB hx252_0
            replace hx252_1 := sqa HB hx252_1
            replace hx252_2 := sqa HB hx252_2
            replace hx252_3 := sqa HB hx252_3
            replace p252 := eq_true p252
            replace q252 := eq_true q252
            have p253 : 0 ≤ (x11_4 : Int) := sqd
            have q253 : x11_4 < (l3.length : Int) := sqd
            obtain ⟨ad253, A253_0, c253_0, e253, hx253_0, hl253_0, hi253_0⟩ := at_T66 HR3.out x11_4 p253 q253
            have hw253_0 := hx253_0
            obtain rfl : ad251 = ad253 := (by injection e253)
            replace hx253_0 := sqa HB hx253_0
            have HR253_0 := Aside0.mk hi253_0
            have HC253_0 := Aside0.mk hl253_0
            clear hi253_0 hl253_0
            replace p253 := eq_true p253
            replace q253 := eq_true q253
            have p254 : 0 ≤ (x12_5 : Int) := sqd
            have q254 : x12_5 < (((rd_T66 l3 x11_4).f0).length : Int) := sqd
            obtain ⟨ad254, e254, hx254_0⟩ := Kd.at_int HR253_0.out x12_5 p254 q254
            have hw254_0 := hx254_0
            cases e254
            replace hx254_0 := sqa HB hx254_0
            replace p254 := eq_true p254
            replace q254 := eq_true q254
            refine start_ (n := 15) (S := fun w' => w'.cell? ⟨gb242, 0, none⟩ = some (.bool a0_0) ∧ w'.cell? ⟨gb242, 1, none⟩ = some (.slice A0_1 l0_1.length c0_1) ∧ w'.cell? ⟨gb242, 2, none⟩ = some (.slice A0_2 l0_2.length c0_2) ∧ w'.cell? ⟨gb242, 3, none⟩ = some (.slice (some ad252) l0_3.length c0_3) ∧ w'.cell? ⟨gb242, 4, none⟩ = some (.int .i64 a0_4) ∧ w'.cell? ⟨gb242, 5, none⟩ = some (.slice A0_5 l0_5.length c0_5) ∧ w'.cell? (ad252.add ((x11_4).toNat * 4)) = some (.int .i64 ((rd_T60 l0_3 x11_4).f0)) ∧ w'.cell? ⟨(ad252.add ((x11_4).toNat * 4)).block, (ad252.add ((x11_4).toNat * 4)).off + 1, none⟩ = some (.int .i64 ((rd_T60 l0_3 x11_4).f1)) ∧ w'.cell? ⟨(ad252.add ((x11_4).toNat * 4)).block, (ad252.add ((x11_4).toNat * 4)).off + 2, none⟩ = some (.int .i64 ((rd_T60 l0_3 x11_4).f2)) ∧ w'.cell? ⟨(ad252.add ((x11_4).toNat * 4)).block, (ad252.add ((x11_4).toNat * 4)).off + 3, none⟩ = some (.int .i64 ((rd_T60 l0_3 x11_4).f3)) ∧ w'.cell? (ad251.add (x11_4).toNat) = some (.slice (some ad254) ((rd_T66 l3 x11_4).f0).length c253_0) ∧ w'.cell? (ad254.add (x12_5).toNat) = some (.int .i64 (rd ((rd_T66 l3 x11_4).f0) x12_5))) (ds := []) #[false, false, false, false, false, false, false, false, false, false, false, false, false, false, false] (by kernel_rfl) rfl rfl ⟨(blk_cell BK242.out 0).trans rfl, (blk_cell BK242.out 1).trans rfl, (blk_cell BK242.out 2).trans rfl, (blk_cell BK242.out 3).trans rfl, (blk_cell BK242.out 4).trans rfl, (blk_cell BK242.out 5).trans rfl, (sqa HB hw252_0 :), (sqa HB hw252_1 :), (sqa HB hw252_2 :), (sqa HB hw252_3 :), (sqa HB hw253_0 :), (sqa HB hw254_0 :)⟩ (fun hHeld => ?_); refine with_tabW spec_AbsHas.tab19 spec_AbsHas.bits19 (fun HT_ HW_ => ?_)
            generalize wr.drew = w55 at BK242 HB HR253_0 hx252_0 hx252_1 hx252_2 hx252_3 hx253_0 hx254_0 hHeld ⊢
            refine sqp HT_ 0 95 ?_
            refine sqp HT_ 2 97 ?_
            refine sqp HT_ 5 100 ?_
            refine sqp HT_ 6 101 ?_
            refine sqp HT_ 7 102 ?_
            refine sqp HT_ 8 103 ?_
            refine sqp HT_ 10 105 ?_
            refine sqw HT_ HW_ 1 96 hHeld ?_
            refine sqp HT_ 3 98 ?_
            refine sqw HT_ HW_ 4 99 hHeld ?_
            refine sqw HT_ HW_ 9 104 hHeld ?_
            refine sqp HT_ 11 106 ?_
            refine sqw HT_ HW_ 12 107 hHeld ?_
            refine sqo HT_ 13 108 (fun K hK => ?_)
            refine sqG Try.func22 #[.agg #[.int .i64 ((rd_T60 l0_3 x11_4).f0), .int .i64 ((rd_T60 l0_3 x11_4).f1), .int .i64 ((rd_T60 l0_3 x11_4).f2), .int .i64 ((rd_T60 l0_3 x11_4).f3)], .int .i64 (rd ((rd_T66 l3 x11_4).f0) x12_5)] ?_
            with_reducible refine (spec_ValHas.calls k5 ((rd_T60 l0_3 x11_4).f0) ((rd_T60 l0_3 x11_4).f1) ((rd_T60 l0_3 x11_4).f2) ((rd_T60 l0_3 x11_4).f3) (rd ((rd_T66 l3 x11_4).f0) x12_5) false _ A51.out).mono ?_
            rintro e w56 ⟨rfl, hb⟩
            refine ⟨_, rfl, ?_⟩
            replace BK242 := sqb BK242 hb
            replace HB := sqs HB hb
            (try clear hb)
            refine hK.out _ _ ⟨(blk_cell BK242.out 0).trans rfl, (blk_cell BK242.out 1).trans rfl, (blk_cell BK242.out 2).trans rfl, (blk_cell BK242.out 3).trans rfl, (blk_cell BK242.out 4).trans rfl, (blk_cell BK242.out 5).trans rfl, (sqa HB hw252_0 :), (sqa HB hw252_1 :), (sqa HB hw252_2 :), (sqa HB hw252_3 :), (sqa HB hw253_0 :), (sqa HB hw254_0 :)⟩ (fun hHeld => ?_)
            clear hK K
            refine sqnm ?_
            refine sqp HT_ 14 109 ?_
            refine done_ (done_of HT_.out (by kernel_rfl)) ?_
            try go_wp2
            go_ret
            exact sqe HB
           subst c52
           have H1 : (spec_AbsHas.l3 k5 l1 l3 x11_4 (wrap64 (x12_5 + 1)) a0_0 l0_1 l0_2 l0_3 a0_4 l0_5) = some r := by rw [if_pos rfl] at H; exact H
           clear H
           have H := H1
           clear H1
           have H' := Aside0.mk H
           clear H
           have p251 : 0 ≤ (x11_4 : Int) := sqd
           have q251 : x11_4 < (l3.length : Int) := sqd
           obtain ⟨ad251, A251_0, c251_0, e251, hx251_0, hl251_0, hi251_0⟩ := at_T66 HR3.out x11_4 p251 q251
           cases e251
           replace hx251_0 := sqa HB hx251_0
           have HR251_0 := Aside0.mk hi251_0
           have HC251_0 := Aside0.mk hl251_0
           clear hi251_0 hl251_0
           replace p251 := eq_true p251
           replace q251 := eq_true q251
           try go_wp2
           replace BK242 := Aside0.mk (blk_drew BK242.out)
           replace HB := Aside0.mk (below_drew1 HB.out)
           have p252 : 0 ≤ (x11_4 : Int) := sqd
           have q252 : x11_4 < (l0_3.length : Int) := sqd
           obtain ⟨ad252, e252, hx252_0, hx252_1, hx252_2, hx252_3⟩ := at_T60 HR0_3.out x11_4 p252 q252
           have hw252_3 := hx252_3
           have hw252_2 := hx252_2
           have hw252_1 := hx252_1
           have hw252_0 := hx252_0
           cases e252
           replace hx252_0 := sqa HB hx252_0
           replace hx252_1 := sqa HB hx252_1
           replace hx252_2 := sqa HB hx252_2
           replace hx252_3 := sqa HB hx252_3
           replace p252 := eq_true p252
           replace q252 := eq_true q252
           have p253 : 0 ≤ (x11_4 : Int) := sqd
           have q253 : x11_4 < (l3.length : Int) := sqd
           obtain ⟨ad253, A253_0, c253_0, e253, hx253_0, hl253_0, hi253_0⟩ := at_T66 HR3.out x11_4 p253 q253
           have hw253_0 := hx253_0
           obtain rfl : ad251 = ad253 := (by injection e253)
           replace hx253_0 := sqa HB hx253_0
           have HR253_0 := Aside0.mk hi253_0
           have HC253_0 := Aside0.mk hl253_0
           clear hi253_0 hl253_0
           replace p253 := eq_true p253
           replace q253 := eq_true q253
           have p254 : 0 ≤ (x12_5 : Int) := sqd
           have q254 : x12_5 < (((rd_T66 l3 x11_4).f0).length : Int) := sqd
           obtain ⟨ad254, e254, hx254_0⟩ := Kd.at_int HR253_0.out x12_5 p254 q254
           have hw254_0 := hx254_0
           cases e254
           replace hx254_0 := sqa HB hx254_0
           replace p254 := eq_true p254
           replace q254 := eq_true q254
           refine start_ (n := 15) (S := fun w' => w'.cell? ⟨gb242, 0, none⟩ = some (.bool a0_0) ∧ w'.cell? ⟨gb242, 1, none⟩ = some (.slice A0_1 l0_1.length c0_1) ∧ w'.cell? ⟨gb242, 2, none⟩ = some (.slice A0_2 l0_2.length c0_2) ∧ w'.cell? ⟨gb242, 3, none⟩ = some (.slice (some ad252) l0_3.length c0_3) ∧ w'.cell? ⟨gb242, 4, none⟩ = some (.int .i64 a0_4) ∧ w'.cell? ⟨gb242, 5, none⟩ = some (.slice A0_5 l0_5.length c0_5) ∧ w'.cell? (ad252.add ((x11_4).toNat * 4)) = some (.int .i64 ((rd_T60 l0_3 x11_4).f0)) ∧ w'.cell? ⟨(ad252.add ((x11_4).toNat * 4)).block, (ad252.add ((x11_4).toNat * 4)).off + 1, none⟩ = some (.int .i64 ((rd_T60 l0_3 x11_4).f1)) ∧ w'.cell? ⟨(ad252.add ((x11_4).toNat * 4)).block, (ad252.add ((x11_4).toNat * 4)).off + 2, none⟩ = some (.int .i64 ((rd_T60 l0_3 x11_4).f2)) ∧ w'.cell? ⟨(ad252.add ((x11_4).toNat * 4)).block, (ad252.add ((x11_4).toNat * 4)).off + 3, none⟩ = some (.int .i64 ((rd_T60 l0_3 x11_4).f3)) ∧ w'.cell? (ad251.add (x11_4).toNat) = some (.slice (some ad254) ((rd_T66 l3 x11_4).f0).length c253_0) ∧ w'.cell? (ad254.add (x12_5).toNat) = some (.int .i64 (rd ((rd_T66 l3 x11_4).f0) x12_5))) (ds := []) #[false, false, false, false, false, false, false, false, false, false, false, false, false, false, false] (by kernel_rfl) rfl rfl ⟨(blk_cell BK242.out 0).trans rfl, (blk_cell BK242.out 1).trans rfl, (blk_cell BK242.out 2).trans rfl, (blk_cell BK242.out 3).trans rfl, (blk_cell BK242.out 4).trans rfl, (blk_cell BK242.out 5).trans rfl, (sqa HB hw252_0 :), (sqa HB hw252_1 :), (sqa HB hw252_2 :), (sqa HB hw252_3 :), (sqa HB hw253_0 :), (sqa HB hw254_0 :)⟩ (fun hHeld => ?_); refine with_tabW spec_AbsHas.tab19 spec_AbsHas.bits19 (fun HT_ HW_ => ?_)
           generalize wr.drew = w53 at BK242 HB HR253_0 hx252_0 hx252_1 hx252_2 hx252_3 hx253_0 hx254_0 hHeld ⊢
           refine sqp HT_ 0 95 ?_
           refine sqp HT_ 2 97 ?_
           refine sqp HT_ 5 100 ?_
           refine sqp HT_ 6 101 ?_
           refine sqp HT_ 7 102 ?_
           refine sqp HT_ 8 103 ?_
           refine sqp HT_ 10 105 ?_
           refine sqw HT_ HW_ 1 96 hHeld ?_
           refine sqp HT_ 3 98 ?_
           refine sqw HT_ HW_ 4 99 hHeld ?_
           refine sqw HT_ HW_ 9 104 hHeld ?_
           refine sqp HT_ 11 106 ?_
           refine sqw HT_ HW_ 12 107 hHeld ?_
           refine sqo HT_ 13 108 (fun K hK => ?_)
           refine sqG Try.func22 #[.agg #[.int .i64 ((rd_T60 l0_3 x11_4).f0), .int .i64 ((rd_T60 l0_3 x11_4).f1), .int .i64 ((rd_T60 l0_3 x11_4).f2), .int .i64 ((rd_T60 l0_3 x11_4).f3)], .int .i64 (rd ((rd_T66 l3 x11_4).f0) x12_5)] ?_
           with_reducible refine (spec_ValHas.calls k5 ((rd_T60 l0_3 x11_4).f0) ((rd_T60 l0_3 x11_4).f1) ((rd_T60 l0_3 x11_4).f2) ((rd_T60 l0_3 x11_4).f3) (rd ((rd_T66 l3 x11_4).f0) x12_5) true _ A51.out).mono ?_
           rintro e w54 ⟨rfl, hb⟩
           refine ⟨_, rfl, ?_⟩
           replace BK242 := sqb BK242 hb
           replace HB := sqs HB hb
           (try clear hb)
           refine hK.out _ _ ⟨(blk_cell BK242.out 0).trans rfl, (blk_cell BK242.out 1).trans rfl, (blk_cell BK242.out 2).trans rfl, (blk_cell BK242.out 3).trans rfl, (blk_cell BK242.out 4).trans rfl, (blk_cell BK242.out 5).trans rfl, (sqa HB hw252_0 :), (sqa HB hw252_1 :), (sqa HB hw252_2 :), (sqa HB hw252_3 :), (sqa HB hw253_0 :), (sqa HB hw254_0 :)⟩ (fun hHeld => ?_)
           clear hK K
           refine sqnm ?_
           refine sqp HT_ 14 109 ?_
           refine done_ (done_of HT_.out (by kernel_rfl)) ?_
           try go_wp2
           go_roundg k5
           case measure => have := HJ4.out; have := HK2.out; have := HK3.out; have := HK4.out; have := HK5.out; omega
           case rel => exact ⟨(wrap64 (x12_5 + 1)), (by first | rfl | (simp; done) | (simp [*]; done)), H', ⟨by have := HJ4.out; have := HK2.out; have := HK3.out; have := HK4.out; have := HK5.out; omega⟩, sqk BK242, sqh HB⟩

end Go.Proofs.Ytnmgckdgmplddaa.PFnExactAbsHas
