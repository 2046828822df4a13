/- Functions of the program as plain Lean functions, and that calls of them come to what these tell. Conditions: those in each law. -/
import Derived.Test.YtnmgckdgmplddaaSq
import Derived.Test.YtnmgckdgmplddaaDFnExactAbsHas
import Derived.Test.YtnmgckdgmplddaaQFnExactAbsHasx0
import Derived.Test.YtnmgckdgmplddaaQFnExactAbsHasx21
import Derived.Test.YtnmgckdgmplddaaQFnExactAbsHasx22
import Derived.Test.YtnmgckdgmplddaaQFnExactAbsHasx23
namespace Go.Proofs.Ytnmgckdgmplddaa.PFnExactAbsHas
open Go.RowKit Go.Proofs.Ytnmgckdgmplddaa.Sq Go.Proofs.YtnmgckdgmplddaaW.PrintWords Go.Proofs.YtnmgckdgmplddaaW.PrintLast Go.Proofs.YtnmgckdgmplddaaW.PrintMore
attribute [local go_sem] max2_int min2_int max_two min_two max_three min_three max_four min_four   -- for this text's walks alone
set_option linter.unusedVariables false
set_option linter.unusedSimpArgs false

/-! ### impl_AbsHas: function 12 -/
set_option maxHeartbeats 8000000 in
set_option maxRecDepth 100000 in
theorem impl_AbsHas.calls (k : Nat) (a0_0 : Bool) (A0_1 : Option Addr) (c0_1 : Nat) (l0_1 : List (S60)) (A0_2 : Option Addr) (c0_2 : Nat) (l0_2 : List (S63)) (A0_3 : Option Addr) (c0_3 : Nat) (l0_3 : List (S60)) (a0_4 : Int) (A0_5 : Option Addr) (c0_5 : Nat) (l0_5 : List Int) (A1 : Option Addr) (c1 : Nat) (l1 : List Int) (A2 : Option Addr) (c2 : Nat) (l2 : List (S65)) (A3 : Option Addr) (c3 : Nat) (l3 : List (S66)) (r : Bool) (w : World) (hr0_1 : Kd.C k60 w A0_1 l0_1.length l0_1) (hc0_1 : l0_1.length ≤ c0_1) (hr0_2 : Kd.C k63 w A0_2 l0_2.length l0_2) (hc0_2 : l0_2.length ≤ c0_2) (hr0_3 : Kd.C k60 w A0_3 l0_3.length l0_3) (hc0_3 : l0_3.length ≤ c0_3) (hr0_5 : Kd.C (Kd.int .i64) w A0_5 l0_5.length l0_5) (hc0_5 : l0_5.length ≤ c0_5) (hr1 : Kd.C (Kd.int .i64) w A1 l1.length l1) (hc1 : l1.length ≤ c1) (hr2 : Kd.C k65 w A2 l2.length l2) (hc2 : l2.length ≤ c2) (hr3 : Kd.C k66 w A3 l3.length l3) (hc3 : l3.length ≤ c3) (h : impl_AbsHas.f k a0_0 l0_1 l0_2 l0_3 a0_4 l0_5 l1 l2 l3 = some r) :
  Calls Try.prog 12 #[.agg #[.bool a0_0, .slice A0_1 l0_1.length c0_1, .slice A0_2 l0_2.length c0_2, .slice A0_3 l0_3.length c0_3, .int .i64 a0_4, .slice A0_5 l0_5.length c0_5], .slice A1 l1.length c1, .slice A2 l2.length c2, .slice A3 l3.length c3] w fun e w' => e = .returned (.bool r) ∧ Below w.heap.size w w' := by
 have hu39 := Try.underlying39
 have hu60 := Try.underlying60
 have hu65 := Try.underlying65
 have hu63 := Try.underlying63
 have hu66 := Try.underlying66
 have hu37 := Try.underlying37
 have HR0_1 := Aside0.mk hr0_1
 have HC0_1 := Aside0.mk hc0_1
 clear hr0_1 hc0_1
 have HR0_2 := Aside0.mk hr0_2
 have HC0_2 := Aside0.mk hc0_2
 clear hr0_2 hc0_2
 have HR0_3 := Aside0.mk hr0_3
 have HC0_3 := Aside0.mk hc0_3
 clear hr0_3 hc0_3
 have HR0_5 := Aside0.mk hr0_5
 have HC0_5 := Aside0.mk hc0_5
 clear hr0_5 hc0_5
 have HR1 := Aside0.mk hr1
 have HC1 := Aside0.mk hc1
 clear hr1 hc1
 have HR2 := Aside0.mk hr2
 have HC2 := Aside0.mk hc2
 clear hr2 hc2
 have HR3 := Aside0.mk hr3
 have HC3 := Aside0.mk hc3
 clear hr3 hc3
 have HB := Aside0.mk (Below.refl w.heap.size w)
 have H := h
 unfold impl_AbsHas.f at H
 clear h
 have HC5 := Aside0.mk H
 clear H
 go_enter Try.func12, Try.ntmps12
 go_upto_region 1 with (first | ((with_reducible refine gate_dst (N := 4) rfl ?_); (try (refine gate_guard (by rfl) ?_; dsimp only)); refine sqx 4 #[.bool a0_0, .slice A0_1 l0_1.length c0_1, .slice A0_2 l0_2.length c0_2, .slice A0_3 l0_3.length c0_3, .int .i64 a0_4, .slice A0_5 l0_5.length c0_5] 39 ?_; intro gb454 hg w6 hbox hb; have BK454 := Aside0.mk hbox; have GW454 := sqg HB hg; have GE454 := sqg HB hg; replace HB := sqs HB hb; clear hb hbox hg))
 (try simp only [Act.put, List.setIfInBounds_toArray, List.set_cons_zero, List.set_cons_succ])
 go_cut [49] (fun v49 wc => ∃ (kq : Nat) (x49_4 : Bool), v49 = .bool x49_4 ∧ Aside0 (impl_AbsHas.j0 kq l1 l2 l3 x49_4 a0_0 l0_1 l0_2 l0_3 a0_4 l0_5 = some r) ∧ Aside0 (kq ≤ k) ∧ Aside0 (wc.heap[gb454]? = some (.cells #[.bool a0_0, (.slice A0_1 l0_1.length c0_1), (.slice A0_2 l0_2.length c0_2), (.slice A0_3 l0_3.length c0_3), .int .i64 a0_4, (.slice A0_5 l0_5.length c0_5)] 39 (0, 0))) ∧ Aside0 (Below w.heap.size w wc))
 case first =>
  have H := HC5.out
  clear HC5
  replace H := Option.bind_eq_some_iff.mp H
  obtain ⟨t455, A70, H⟩ := H
  try dsimp only at H
  have A7 := Aside0.mk A70
  clear A70
  rcases sqI (t455 = true) with c8 | c8
  ·replace c8 := Bool.eq_false_iff.mpr c8
   subst c8
   have H1 : (impl_AbsHas.j0 k l1 l2 l3 true a0_0 l0_1 l0_2 l0_3 a0_4 l0_5) = some r := by rw [if_neg (show ¬ (false = true) by decide)] at H; exact H
   clear H
   have H := H1
   clear H1
   have H' := Aside0.mk H
   clear H
   obtain ⟨hcz24_0, hcz24_1, hcz24_2, hcz24_3, hcz24_4, hcz24_5, hfz24_0, hfz24_1, hfz24_2, hfz24_3, hfz24_4, hfz24_5⟩ := sqc6 BK454
   go_wp2_with (first | ((with_reducible refine gate_callee (f := 30) rfl ?_); refine sqL (some 19) Try.func30 #[.agg #[.bool a0_0, .slice A0_1 l0_1.length c0_1, .slice A0_2 l0_2.length c0_2, .slice A0_3 l0_3.length c0_3, .int .i64 a0_4, .slice A0_5 l0_5.length c0_5]] ?_; (with_reducible refine (impl_AbsOk.calls k a0_0 _ _ l0_1 _ _ l0_2 _ _ l0_3 a0_4 _ _ l0_5 false _ ?side1 ?side2 ?side3 ?side4 ?side5 ?side6 ?side7 ?side8 A7.out).mono ?_); (case side1 => exact sqC (Kd.C_below HR0_1.out HB.out)); (case side2 => exact HC0_1.out); (case side3 => exact sqC (Kd.C_below HR0_2.out HB.out)); (case side4 => exact HC0_2.out); (case side5 => exact sqC (Kd.C_below HR0_3.out HB.out)); (case side6 => exact HC0_3.out); (case side7 => exact sqC (Kd.C_below HR0_5.out HB.out)); (case side8 => exact HC0_5.out); rintro e w25 ⟨rfl, hb⟩; refine ⟨_, rfl, ?_⟩; replace BK454 := sqb BK454 hb; replace HB := sqs HB hb; (try clear hb)))
   go_meet
   case rel => exact ⟨_, (true), (by first | rfl | (simp; done) | (simp [*]; done)), H', ⟨by first | omega | exact Nat.le_refl _⟩, sqk BK454, sqh HB⟩
  subst c8
  have H1 : (if a0_0 = true then (if (l1.length : Int) = (l0_1.length : Int) then (if (l2.length : Int) = (l0_2.length : Int) then (impl_AbsHas.j0 k l1 l2 l3 ((l3.length : Int) != (l0_3.length : Int)) a0_0 l0_1 l0_2 l0_3 a0_4 l0_5) else (impl_AbsHas.j0 k l1 l2 l3 true a0_0 l0_1 l0_2 l0_3 a0_4 l0_5)) else (impl_AbsHas.j0 k l1 l2 l3 true a0_0 l0_1 l0_2 l0_3 a0_4 l0_5)) else (impl_AbsHas.j0 k l1 l2 l3 true a0_0 l0_1 l0_2 l0_3 a0_4 l0_5)) = some r := by rw [if_pos rfl] at H; exact H
  clear H
  have H := H1
  clear H1
  rcases sqI (a0_0 = true) with c9 | c9
  ·replace c9 := Bool.eq_false_iff.mpr c9
   subst c9
   have H1 : (impl_AbsHas.j0 k l1 l2 l3 true false l0_1 l0_2 l0_3 a0_4 l0_5) = some r := by rw [if_neg (show ¬ (false = true) by decide)] at H; exact H
   clear H
   have H := H1
   clear H1
   have H' := Aside0.mk H
   clear H
   obtain ⟨hcz21_0, hcz21_1, hcz21_2, hcz21_3, hcz21_4, hcz21_5, hfz21_0, hfz21_1, hfz21_2, hfz21_3, hfz21_4, hfz21_5⟩ := sqc6 BK454
   go_wp2_with (first | ((with_reducible refine gate_callee (f := 30) rfl ?_); refine sqL (some 19) Try.func30 #[.agg #[.bool false, .slice A0_1 l0_1.length c0_1, .slice A0_2 l0_2.length c0_2, .slice A0_3 l0_3.length c0_3, .int .i64 a0_4, .slice A0_5 l0_5.length c0_5]] ?_; (with_reducible refine (impl_AbsOk.calls k false _ _ l0_1 _ _ l0_2 _ _ l0_3 a0_4 _ _ l0_5 true _ ?side1 ?side2 ?side3 ?side4 ?side5 ?side6 ?side7 ?side8 A7.out).mono ?_); (case side1 => exact sqC (Kd.C_below HR0_1.out HB.out)); (case side2 => exact HC0_1.out); (case side3 => exact sqC (Kd.C_below HR0_2.out HB.out)); (case side4 => exact HC0_2.out); (case side5 => exact sqC (Kd.C_below HR0_3.out HB.out)); (case side6 => exact HC0_3.out); (case side7 => exact sqC (Kd.C_below HR0_5.out HB.out)); (case side8 => exact HC0_5.out); rintro e w22 ⟨rfl, hb⟩; refine ⟨_, rfl, ?_⟩; replace BK454 := sqb BK454 hb; replace HB := sqs HB hb; (try clear hb); obtain ⟨hcz23_0, hcz23_1, hcz23_2, hcz23_3, hcz23_4, hcz23_5, hfz23_0, hfz23_1, hfz23_2, hfz23_3, hfz23_4, hfz23_5⟩ := sqc6 BK454))
   go_meet
   case rel => exact ⟨_, (true), (by first | rfl | (simp; done) | (simp [*]; done)), H', ⟨by first | omega | exact Nat.le_refl _⟩, sqk BK454, sqh HB⟩
  subst c9
  have H1 : (if (l1.length : Int) = (l0_1.length : Int) then (if (l2.length : Int) = (l0_2.length : Int) then (impl_AbsHas.j0 k l1 l2 l3 ((l3.length : Int) != (l0_3.length : Int)) true l0_1 l0_2 l0_3 a0_4 l0_5) else (impl_AbsHas.j0 k l1 l2 l3 true true l0_1 l0_2 l0_3 a0_4 l0_5)) else (impl_AbsHas.j0 k l1 l2 l3 true true l0_1 l0_2 l0_3 a0_4 l0_5)) = some r := by rw [if_pos rfl] at H; exact H
  clear H
  have H := H1
  clear H1
  replace H := sqi H
  rcases H with ⟨c10, H⟩ | ⟨c10, H⟩
  ·have c10b0 : ((l1.length : Int) == (l0_1.length : Int)) = false := beq_eq_false_iff_ne.mpr c10
   have c10b1 : ((l1.length : Int) != (l0_1.length : Int)) = true := bne_iff_ne.mpr c10
   have c10b2 : (l1.length == l0_1.length) = false := by first | simpa using c10 | (simp at c10 ⊢; omega)
   (first | rw [c10b0] | (simp only [i64_w, i32_w]; rw [c10b0]) | skip)
   have H' := Aside0.mk H
   clear H
   obtain ⟨hcz18_0, hcz18_1, hcz18_2, hcz18_3, hcz18_4, hcz18_5, hfz18_0, hfz18_1, hfz18_2, hfz18_3, hfz18_4, hfz18_5⟩ := sqc6 BK454
   go_wp2_with (first | ((with_reducible refine gate_callee (f := 30) rfl ?_); refine sqL (some 19) Try.func30 #[.agg #[.bool true, .slice A0_1 l0_1.length c0_1, .slice A0_2 l0_2.length c0_2, .slice A0_3 l0_3.length c0_3, .int .i64 a0_4, .slice A0_5 l0_5.length c0_5]] ?_; (with_reducible refine (impl_AbsOk.calls k true _ _ l0_1 _ _ l0_2 _ _ l0_3 a0_4 _ _ l0_5 true _ ?side1 ?side2 ?side3 ?side4 ?side5 ?side6 ?side7 ?side8 A7.out).mono ?_); (case side1 => exact sqC (Kd.C_below HR0_1.out HB.out)); (case side2 => exact HC0_1.out); (case side3 => exact sqC (Kd.C_below HR0_2.out HB.out)); (case side4 => exact HC0_2.out); (case side5 => exact sqC (Kd.C_below HR0_3.out HB.out)); (case side6 => exact HC0_3.out); (case side7 => exact sqC (Kd.C_below HR0_5.out HB.out)); (case side8 => exact HC0_5.out); rintro e w19 ⟨rfl, hb⟩; refine ⟨_, rfl, ?_⟩; replace BK454 := sqb BK454 hb; replace HB := sqs HB hb; (try clear hb); obtain ⟨hcz20_0, hcz20_1, hcz20_2, hcz20_3, hcz20_4, hcz20_5, hfz20_0, hfz20_1, hfz20_2, hfz20_3, hfz20_4, hfz20_5⟩ := sqc6 BK454))
   go_meet
   case rel => exact ⟨_, (true), (by first | rfl | (simp; done) | (simp [*]; done)), H', ⟨by first | omega | exact Nat.le_refl _⟩, sqk BK454, sqh HB⟩
  have c10b0 : ((l1.length : Int) == (l0_1.length : Int)) = true := beq_iff_eq.mpr c10
  have c10b1 : ((l1.length : Int) != (l0_1.length : Int)) = false := bne_eq_false_iff_eq.mpr c10
  have c10b2 : (l1.length == l0_1.length) = true := by first | simpa using c10 | (simp at c10 ⊢; omega)
  clear c10
  (first | rw [c10b0] | (simp only [i64_w, i32_w]; rw [c10b0]) | skip)
  replace H := sqi H
  rcases H with ⟨c11, H⟩ | ⟨c11, H⟩
  ·have c11b0 : ((l2.length : Int) == (l0_2.length : Int)) = false := beq_eq_false_iff_ne.mpr c11
   have c11b1 : ((l2.length : Int) != (l0_2.length : Int)) = true := bne_iff_ne.mpr c11
   have c11b2 : (l2.length == l0_2.length) = false := by first | simpa using c11 | (simp at c11 ⊢; omega)
   have H' := Aside0.mk H
   clear H
   obtain ⟨hcz15_0, hcz15_1, hcz15_2, hcz15_3, hcz15_4, hcz15_5, hfz15_0, hfz15_1, hfz15_2, hfz15_3, hfz15_4, hfz15_5⟩ := sqc6 BK454
   go_wp2_with (first | ((with_reducible refine gate_callee (f := 30) rfl ?_); refine sqL (some 19) Try.func30 #[.agg #[.bool true, .slice A0_1 l0_1.length c0_1, .slice A0_2 l0_2.length c0_2, .slice A0_3 l0_3.length c0_3, .int .i64 a0_4, .slice A0_5 l0_5.length c0_5]] ?_; (with_reducible refine (impl_AbsOk.calls k true _ _ l0_1 _ _ l0_2 _ _ l0_3 a0_4 _ _ l0_5 true _ ?side1 ?side2 ?side3 ?side4 ?side5 ?side6 ?side7 ?side8 A7.out).mono ?_); (case side1 => exact sqC (Kd.C_below HR0_1.out HB.out)); (case side2 => exact HC0_1.out); (case side3 => exact sqC (Kd.C_below HR0_2.out HB.out)); (case side4 => exact HC0_2.out); (case side5 => exact sqC (Kd.C_below HR0_3.out HB.out)); (case side6 => exact HC0_3.out); (case side7 => exact sqC (Kd.C_below HR0_5.out HB.out)); (case side8 => exact HC0_5.out); rintro e w16 ⟨rfl, hb⟩; refine ⟨_, rfl, ?_⟩; replace BK454 := sqb BK454 hb; replace HB := sqs HB hb; (try clear hb); obtain ⟨hcz17_0, hcz17_1, hcz17_2, hcz17_3, hcz17_4, hcz17_5, hfz17_0, hfz17_1, hfz17_2, hfz17_3, hfz17_4, hfz17_5⟩ := sqc6 BK454))
   go_meet
   case rel => exact ⟨_, (true), (by first | rfl | (simp; done) | (simp [*]; done)), H', ⟨by first | omega | exact Nat.le_refl _⟩, sqk BK454, sqh HB⟩
  have c11b0 : ((l2.length : Int) == (l0_2.length : Int)) = true := beq_iff_eq.mpr c11
  have c11b1 : ((l2.length : Int) != (l0_2.length : Int)) = false := bne_eq_false_iff_eq.mpr c11
  have c11b2 : (l2.length == l0_2.length) = true := by first | simpa using c11 | (simp at c11 ⊢; omega)
  clear c11
  have H' := Aside0.mk H
  clear H
  obtain ⟨hcz12_0, hcz12_1, hcz12_2, hcz12_3, hcz12_4, hcz12_5, hfz12_0, hfz12_1, hfz12_2, hfz12_3, hfz12_4, hfz12_5⟩ := sqc6 BK454
  go_wp2_with (first | ((with_reducible refine gate_callee (f := 30) rfl ?_); refine sqL (some 19) Try.func30 #[.agg #[.bool true, .slice A0_1 l0_1.length c0_1, .slice A0_2 l0_2.length c0_2, .slice A0_3 l0_3.length c0_3, .int .i64 a0_4, .slice A0_5 l0_5.length c0_5]] ?_; (with_reducible refine (impl_AbsOk.calls k true _ _ l0_1 _ _ l0_2 _ _ l0_3 a0_4 _ _ l0_5 true _ ?side1 ?side2 ?side3 ?side4 ?side5 ?side6 ?side7 ?side8 A7.out).mono ?_); (case side1 => exact sqC (Kd.C_below HR0_1.out HB.out)); (case side2 => exact HC0_1.out); (case side3 => exact sqC (Kd.C_below HR0_2.out HB.out)); (case side4 => exact HC0_2.out); (case side5 => exact sqC (Kd.C_below HR0_3.out HB.out)); (case side6 => exact HC0_3.out); (case side7 => exact sqC (Kd.C_below HR0_5.out HB.out)); (case side8 => exact HC0_5.out); rintro e w13 ⟨rfl, hb⟩; refine ⟨_, rfl, ?_⟩; replace BK454 := sqb BK454 hb; replace HB := sqs HB hb; (try clear hb); obtain ⟨hcz14_0, hcz14_1, hcz14_2, hcz14_3, hcz14_4, hcz14_5, hfz14_0, hfz14_1, hfz14_2, hfz14_3, hfz14_4, hfz14_5⟩ := sqc6 BK454))
  go_meet
  case rel => exact ⟨_, (((l3.length : Int) != (l0_3.length : Int))), (by first | rfl | (simp; done) | (simp [*]; done)), H', ⟨by first | omega | exact Nat.le_refl _⟩, sqk BK454, sqh HB⟩
 case rest =>
  clear HC5
  obtain ⟨kq, x49_4, rfl, HA, HJ4, BK454, HB⟩ := hcut
  cases kq with
  | zero => exact absurd HA.out (by simp [impl_AbsHas.j0])
  | succ kj4 =>
   have H := HA.out
   clear HA
   simp only [impl_AbsHas.j0] at H
   by_cases c26 : x49_4 = true
   ·subst c26
    have H1 : (some false) = some r := by rw [if_pos rfl] at H; exact H
    clear H
    have H := H1
    clear H1
    obtain rfl := Option.some.inj H
    go_wp2
    go_ret
    exact sqe HB
   replace c26 := Bool.eq_false_iff.mpr c26
   subst c26
   have H1 : (impl_AbsHas.l0 kj4 l1 l2 l3 l1 (l1.length : Int) 0 a0_0 l0_1 l0_2 l0_3 a0_4 l0_5) = some r := by rw [if_neg (show ¬ (false = true) by decide)] at H; exact H
   clear H
   have H := H1
   clear H1
   have H' := Aside0.mk H
   clear H
   go_wp2
   go_loopg [52] kj4 (fun kq v52 w' => ∃ (x52_2 : Int), v52 = .int .i64 x52_2 ∧ Aside0 (impl_AbsHas.l0 kq l1 l2 l3 l1 (l1.length : Int) x52_2 a0_0 l0_1 l0_2 l0_3 a0_4 l0_5 = some r) ∧ Aside0 (kq ≤ kj4) ∧ Aside0 (w'.heap[gb454]? = some (.cells #[.bool a0_0, (.slice A0_1 l0_1.length c0_1), (.slice A0_2 l0_2.length c0_2), (.slice A0_3 l0_3.length c0_3), .int .i64 a0_4, (.slice A0_5 l0_5.length c0_5)] 39 (0, 0))) ∧ Aside0 (Below w.heap.size w w'))
   case atStart => exact ⟨(0), (by first | rfl | (simp; done) | (simp [*]; done)), H', ⟨Nat.le_refl _⟩, sqk BK454, sqh HB⟩
   case round =>
    clear H'
    obtain ⟨x52_2, rfl, HA, HK2, BK454, HB⟩ := hrel
    cases gk with
    | zero => exact absurd HA.out (by simp [impl_AbsHas.l0])
    | succ k2 =>
     have H := HA.out
     clear HA
     simp only [impl_AbsHas.l0] at H
     replace H := sqj H
     rcases H with ⟨c27, H⟩ | ⟨c27, H⟩
     ·have c27b0 := decide_eq_true c27
      clear c27
      replace H := sqi H
      rcases H with ⟨c28, H⟩ | ⟨c28, H⟩
      ·exact absurd H (by simp)
      have c28b0 := decide_eq_true c28
      clear c28
      replace H := sqi H
      rcases H with ⟨c29, H⟩ | ⟨c29, H⟩
      ·exact absurd H (by simp)
      have c29b0 := decide_eq_true c29
      clear c29
      replace H := sqi H
      rcases H with ⟨c30, H⟩ | ⟨c30, H⟩
      ·exact absurd H (by simp)
      have c30b0 := decide_eq_true c30
      clear c30
      replace H := Option.bind_eq_some_iff.mp H
      obtain ⟨t458, A310, H⟩ := H
      try dsimp only at H
      have A31 := Aside0.mk A310
      clear A310
      rcases sqI (t458 = true) with c32 | c32
      ·replace c32 := Bool.eq_false_iff.mpr c32
       subst c32
       have H1 : (some false) = some r := by rw [if_neg (show ¬ (false = true) by decide)] at H; exact H
       clear H
       have H := H1
       clear H1
       obtain rfl := Option.some.inj H
       have p456 : 0 ≤ (x52_2 : Int) := sqd
       have q456 : x52_2 < (l1.length : Int) := sqd
       obtain ⟨ad456, e456, hx456_0⟩ := Kd.at_int HR1.out x52_2 p456 q456
       cases e456
       replace hx456_0 := sqa HB hx456_0
       replace p456 := eq_true p456
       replace q456 := eq_true q456
       obtain ⟨hcz35_0, hcz35_1, hcz35_2, hcz35_3, hcz35_4, hcz35_5, hfz35_0, hfz35_1, hfz35_2, hfz35_3, hfz35_4, hfz35_5⟩ := sqc6 BK454
       have p457 : 0 ≤ (x52_2 : Int) := sqd
       have q457 : x52_2 < (l0_1.length : Int) := sqd
       obtain ⟨ad457, e457, hx457_0, hx457_1, hx457_2, hx457_3⟩ := at_T60 HR0_1.out x52_2 p457 q457
       cases e457
       replace hx457_0 := sqa HB hx457_0
       replace hx457_1 := sqa HB hx457_1
       replace hx457_2 := sqa HB hx457_2
       replace hx457_3 := sqa HB hx457_3
       replace p457 := eq_true p457
       replace q457 := eq_true q457
       go_wp2_with (first | ((with_reducible refine gate_callee (f := 31) rfl ?_); refine sqL (some 63) Try.func31 #[.agg #[.int .i64 ((rd_T60 l0_1 x52_2).f0), .int .i64 ((rd_T60 l0_1 x52_2).f1), .int .i64 ((rd_T60 l0_1 x52_2).f2), .int .i64 ((rd_T60 l0_1 x52_2).f3)], .int .i64 (rd l1 x52_2)] ?_; (with_reducible refine (impl_ValHas.calls k2 ((rd_T60 l0_1 x52_2).f0) ((rd_T60 l0_1 x52_2).f1) ((rd_T60 l0_1 x52_2).f2) ((rd_T60 l0_1 x52_2).f3) (rd l1 x52_2) false _ A31.out).mono ?_); rintro e w36 ⟨rfl, hb⟩; refine ⟨_, rfl, ?_⟩; replace BK454 := sqb BK454 hb; replace HB := sqs HB hb; (try clear hb)))
       go_ret
       exact sqe HB
      subst c32
      have H1 : (impl_AbsHas.l0 k2 l1 l2 l3 l1 (l1.length : Int) (wrap64 (x52_2 + 1)) a0_0 l0_1 l0_2 l0_3 a0_4 l0_5) = some r := by rw [if_pos rfl] at H; exact H
      clear H
      have H := H1
      clear H1
      have H' := Aside0.mk H
      clear H
      have p456 : 0 ≤ (x52_2 : Int) := sqd
      have q456 : x52_2 < (l1.length : Int) := sqd
      obtain ⟨ad456, e456, hx456_0⟩ := Kd.at_int HR1.out x52_2 p456 q456
      cases e456
      replace hx456_0 := sqa HB hx456_0
      replace p456 := eq_true p456
      replace q456 := eq_true q456
      obtain ⟨hcz33_0, hcz33_1, hcz33_2, hcz33_3, hcz33_4, hcz33_5, hfz33_0, hfz33_1, hfz33_2, hfz33_3, hfz33_4, hfz33_5⟩ := sqc6 BK454
      have p457 : 0 ≤ (x52_2 : Int) := sqd
      have q457 : x52_2 < (l0_1.length : Int) := sqd
      obtain ⟨ad457, e457, hx457_0, hx457_1, hx457_2, hx457_3⟩ := at_T60 HR0_1.out x52_2 p457 q457
      cases e457
      replace hx457_0 := sqa HB hx457_0
      replace hx457_1 := sqa HB hx457_1
      replace hx457_2 := sqa HB hx457_2
      replace hx457_3 := sqa HB hx457_3
      replace p457 := eq_true p457
      replace q457 := eq_true q457
      go_wp2_with (first | ((with_reducible refine gate_callee (f := 31) rfl ?_); refine sqL (some 63) Try.func31 #[.agg #[.int .i64 ((rd_T60 l0_1 x52_2).f0), .int .i64 ((rd_T60 l0_1 x52_2).f1), .int .i64 ((rd_T60 l0_1 x52_2).f2), .int .i64 ((rd_T60 l0_1 x52_2).f3)], .int .i64 (rd l1 x52_2)] ?_; (with_reducible refine (impl_ValHas.calls k2 ((rd_T60 l0_1 x52_2).f0) ((rd_T60 l0_1 x52_2).f1) ((rd_T60 l0_1 x52_2).f2) ((rd_T60 l0_1 x52_2).f3) (rd l1 x52_2) true _ A31.out).mono ?_); rintro e w34 ⟨rfl, hb⟩; refine ⟨_, rfl, ?_⟩; replace BK454 := sqb BK454 hb; replace HB := sqs HB hb; (try clear hb)))
      go_roundg k2
      case measure => have := HJ4.out; have := HK2.out; omega
      case rel => exact ⟨(wrap64 (x52_2 + 1)), (by first | rfl | (simp; done) | (simp [*]; done)), H', ⟨by have := HJ4.out; have := HK2.out; omega⟩, sqk BK454, sqh HB⟩
     have c27b0 := decide_eq_false c27
     clear c27
     have H' := Aside0.mk H
     clear H
     go_wp2
     go_loopg [68] k2 (fun kq v68 w' => ∃ (x68_3 : Int), v68 = .int .i64 x68_3 ∧ Aside0 (impl_AbsHas.l1 kq l1 l3 l2 (l2.length : Int) x68_3 a0_0 l0_1 l0_2 l0_3 a0_4 l0_5 = some r) ∧ Aside0 (kq ≤ k2) ∧ Aside0 (w'.heap[gb454]? = some (.cells #[.bool a0_0, (.slice A0_1 l0_1.length c0_1), (.slice A0_2 l0_2.length c0_2), (.slice A0_3 l0_3.length c0_3), .int .i64 a0_4, (.slice A0_5 l0_5.length c0_5)] 39 (0, 0))) ∧ Aside0 (Below w.heap.size w w'))
     case atStart => exact ⟨(0), (by first | rfl | (simp; done) | (simp [*]; done)), H', ⟨Nat.le_refl _⟩, sqk BK454, sqh HB⟩
     case round =>
      clear H'
      obtain ⟨x68_3, rfl, HA, HK3, BK454, HB⟩ := hrel
      cases gk with
      | zero => exact absurd HA.out (by simp [impl_AbsHas.l1])
      | succ k3 =>
       have H := HA.out
       clear HA
       simp only [impl_AbsHas.l1] at H
       replace H := sqi H
       rcases H with ⟨c37, H⟩ | ⟨c37, H⟩
       ·have c37b0 := decide_eq_false c37
        clear c37
        have H' := Aside0.mk H
        clear H
        go_wp2
        go_loopg [101] k3 (fun kq v101 w' => ∃ (x101_4 : Int), v101 = .int .i64 x101_4 ∧ Aside0 (impl_AbsHas.l2 kq l1 l3 (l3.length : Int) x101_4 a0_0 l0_1 l0_2 l0_3 a0_4 l0_5 = some r) ∧ Aside0 (kq ≤ k3) ∧ Aside0 (w'.heap[gb454]? = some (.cells #[.bool a0_0, (.slice A0_1 l0_1.length c0_1), (.slice A0_2 l0_2.length c0_2), (.slice A0_3 l0_3.length c0_3), .int .i64 a0_4, (.slice A0_5 l0_5.length c0_5)] 39 (0, 0))) ∧ Aside0 (Below w.heap.size w w'))
        case atStart => exact ⟨(0), (by first | rfl | (simp; done) | (simp [*]; done)), H', ⟨Nat.le_refl _⟩, sqk BK454, sqh HB⟩
        case round =>
         clear H'
         obtain ⟨x101_4, rfl, HA, HK4, BK454, HB⟩ := hrel
         cases gk with
         | zero => exact absurd HA.out (by simp [impl_AbsHas.l2])
         | succ k4 =>
          have H := HA.out
          clear HA
          simp only [impl_AbsHas.l2] at H
          replace H := sqi H
          rcases H with ⟨c95, H⟩ | ⟨c95, H⟩
          ·have c95b0 := decide_eq_false c95
           clear c95
           replace H := Option.bind_eq_some_iff.mp H
           obtain ⟨t465, A1140, H⟩ := H
           try dsimp only at H
           have A114 := Aside0.mk A1140
           clear A1140
           obtain rfl := Option.some.inj H
           obtain ⟨hcz115_0, hcz115_1, hcz115_2, hcz115_3, hcz115_4, hcz115_5, hfz115_0, hfz115_1, hfz115_2, hfz115_3, hfz115_4, hfz115_5⟩ := sqc6 BK454
           go_wp2_with (first | ((with_reducible refine gate_callee (f := 33) rfl ?_); refine sqL (some 126) Try.func33 #[.agg #[.int .i64 a0_4, .slice A0_5 l0_5.length c0_5], .slice A1 l1.length c1] ?_; (with_reducible refine (impl_GapsHas.calls k4 a0_4 _ _ l0_5 _ _ l1 t465 _ ?side1 ?side2 ?side3 ?side4 A114.out).mono ?_); (case side1 => exact sqC (Kd.C_below HR0_5.out HB.out)); (case side2 => exact HC0_5.out); (case side3 => exact sqC (Kd.C_below HR1.out HB.out)); (case side4 => exact HC1.out); rintro e w116 ⟨rfl, hb⟩; refine ⟨_, rfl, ?_⟩; replace BK454 := sqb BK454 hb; replace HB := sqs HB hb; (try clear hb)))
           go_ret
           exact sqe HB
          have c95b0 := decide_eq_true c95
          clear c95
          replace H := sqi H
          rcases H with ⟨c96, H⟩ | ⟨c96, H⟩
          ·exact absurd H (by simp)
          have c96b0 := decide_eq_true c96
          clear c96
          replace H := sqi H
          rcases H with ⟨c97, H⟩ | ⟨c97, H⟩
          ·exact absurd H (by simp)
          have c97b0 := decide_eq_true c97
          clear c97
          have H' := Aside0.mk H
          clear H
          have p466 : 0 ≤ (x101_4 : Int) := sqd
          have q466 : x101_4 < (l3.length : Int) := sqd
          obtain ⟨ad466, A466_0, c466_0, e466, hx466_0, hl466_0, hi466_0⟩ := at_T66 HR3.out x101_4 p466 q466
          cases e466
          replace hx466_0 := sqa HB hx466_0
          have HR466_0 := Aside0.mk hi466_0
          have HC466_0 := Aside0.mk hl466_0
          clear hi466_0 hl466_0
          replace p466 := eq_true p466
          replace q466 := eq_true q466
          go_wp2_with (first | ((with_reducible refine gate_dst (N := 15) rfl ?_); (try (refine gate_guard (by rfl) ?_; dsimp only)); refine sqx 15 #[.slice none 0 0] 66 ?_; intro gb467 hg w98 hbox hb; have BK467 := Aside0.mk hbox; have GW467 := sqg HB hg; have GE467 := sqg HB hg; have NB454_467 := sqn BK454 hg; have NB467_454 := sqm BK454 hg; replace BK454 := sqb BK454 hb; replace HB := sqs HB hb; clear hb hbox hg; have hnb99 := NB467_454.out; have hnc99 := NB454_467.out; obtain ⟨hcz100_0, hfz100_0⟩ := sqc1 BK467))
          go_loopg [109] k4 (fun kq v109 w' => ∃ (x109_5 : Int), v109 = .int .i64 x109_5 ∧ Aside0 (impl_AbsHas.l3 kq l1 x101_4 l3 (l3.length : Int) x101_4 ((rd_T66 l3 x101_4).f0) (((rd_T66 l3 x101_4).f0).length : Int) x109_5 a0_0 l0_1 l0_2 l0_3 a0_4 l0_5 = some r) ∧ Aside0 (kq ≤ k4) ∧ Aside0 (w'.heap[gb454]? = some (.cells #[.bool a0_0, (.slice A0_1 l0_1.length c0_1), (.slice A0_2 l0_2.length c0_2), (.slice A0_3 l0_3.length c0_3), .int .i64 a0_4, (.slice A0_5 l0_5.length c0_5)] 39 (0, 0))) ∧ Aside0 (w'.heap[gb467]? = some (.cells #[(.slice A466_0 ((rd_T66 l3 x101_4).f0).length c466_0)] 66 (0, 0))) ∧ Aside0 (Below w.heap.size w w'))
          case atStart => exact ⟨(0), (by first | rfl | (simp; done) | (simp [*]; done)), H', ⟨Nat.le_refl _⟩, ⟨sqT BK454⟩, ⟨by refine sqt ?_; refine blk_put (cs := #[.slice none 0 0]) ?_ 0 _ rfl; refine sqt ?_; exact BK467.out⟩, sqh HB⟩
          case round =>
           clear H'
           obtain ⟨x109_5, rfl, HA, HK5, BK454, BK467, HB⟩ := hrel
           cases gk with
           | zero => exact absurd HA.out (by simp [impl_AbsHas.l3])
           | succ k5 =>
            have H := HA.out
            clear HA
            simp only [impl_AbsHas.l3] at H
            replace H := sqi H
            rcases H with ⟨c101, H⟩ | ⟨c101, H⟩
            ·have c101b0 := decide_eq_false c101
             clear c101
             have H' := Aside0.mk H
             clear H
             go_wp2
             go_roundg k5
             case measure => have := HJ4.out; have := HK2.out; have := HK3.out; have := HK4.out; have := HK5.out; omega
             case rel => exact ⟨(wrap64 (x101_4 + 1)), (by first | rfl | (simp; done) | (simp [*]; done)), H', ⟨by have := HJ4.out; have := HK2.out; have := HK3.out; have := HK4.out; have := HK5.out; omega⟩, sqk BK454, sqh HB⟩
            have c101b0 := decide_eq_true c101
            clear c101
            replace H := sqi H
            rcases H with ⟨c102, H⟩ | ⟨c102, H⟩
            ·exact absurd H (by simp)
            have c102b0 := decide_eq_true c102
            clear c102
            replace H := sqi H
            rcases H with ⟨c103, H⟩ | ⟨c103, H⟩
            ·exact absurd H (by simp)
            have c103b0 := decide_eq_true c103
            clear c103
            replace H := sqi H
            rcases H with ⟨c104, H⟩ | ⟨c104, H⟩
            ·exact absurd H (by simp)
            have c104b0 := decide_eq_true c104
            clear c104
            replace H := sqi H
            rcases H with ⟨c105, H⟩ | ⟨c105, H⟩
            ·exact absurd H (by simp)
            have c105b0 := decide_eq_true c105
            clear c105
            replace H := Option.bind_eq_some_iff.mp H
            obtain ⟨t470, A1060, H⟩ := H
            try dsimp only at H
            have A106 := Aside0.mk A1060
            clear A1060
            rcases sqI (t470 = true) with c107 | c107
            ·replace c107 := Bool.eq_false_iff.mpr c107
             subst c107
             have H1 : (some false) = some r := by rw [if_neg (show ¬ (false = true) by decide)] at H; exact H
             clear H
             have H := H1
             clear H1
             obtain rfl := Option.some.inj H
             have p468 : 0 ≤ (x109_5 : Int) := sqd
             have q468 : x109_5 < (((rd_T66 l3 x101_4).f0).length : Int) := sqd
             obtain ⟨ad468, e468, hx468_0⟩ := Kd.at_int HR466_0.out x109_5 p468 q468
             cases e468
             replace hx468_0 := sqa HB hx468_0
             replace p468 := eq_true p468
             replace q468 := eq_true q468
             have hnb111 := NB454_467.out
             have hnc111 := NB467_454.out
             obtain ⟨hcz112_0, hcz112_1, hcz112_2, hcz112_3, hcz112_4, hcz112_5, hfz112_0, hfz112_1, hfz112_2, hfz112_3, hfz112_4, hfz112_5⟩ := sqc6 BK454
             have p469 : 0 ≤ (x101_4 : Int) := sqd
             have q469 : x101_4 < (l0_3.length : Int) := sqd
             obtain ⟨ad469, e469, hx469_0, hx469_1, hx469_2, hx469_3⟩ := at_T60 HR0_3.out x101_4 p469 q469
             cases e469
             replace hx469_0 := sqa HB hx469_0
             replace hx469_1 := sqa HB hx469_1
             replace hx469_2 := sqa HB hx469_2
             replace hx469_3 := sqa HB hx469_3
             replace p469 := eq_true p469
             replace q469 := eq_true q469
             go_wp2_with (first | ((with_reducible refine gate_callee (f := 31) rfl ?_); refine sqL (some 119) Try.func31 #[.agg #[.int .i64 ((rd_T60 l0_3 x101_4).f0), .int .i64 ((rd_T60 l0_3 x101_4).f1), .int .i64 ((rd_T60 l0_3 x101_4).f2), .int .i64 ((rd_T60 l0_3 x101_4).f3)], .int .i64 (rd ((rd_T66 l3 x101_4).f0) x109_5)] ?_; (with_reducible refine (impl_ValHas.calls k5 ((rd_T60 l0_3 x101_4).f0) ((rd_T60 l0_3 x101_4).f1) ((rd_T60 l0_3 x101_4).f2) ((rd_T60 l0_3 x101_4).f3) (rd ((rd_T66 l3 x101_4).f0) x109_5) false _ A106.out).mono ?_); rintro e w113 ⟨rfl, hb⟩; refine ⟨_, rfl, ?_⟩; refine sqM2 BK454 BK467 hb ?_; clear BK454 BK467; intro BK454 BK467; replace HB := sqs HB hb; (try clear hb)))
             go_ret
             exact sqe HB
            subst c107
            have H1 : (impl_AbsHas.l3 k5 l1 x101_4 l3 (l3.length : Int) x101_4 ((rd_T66 l3 x101_4).f0) (((rd_T66 l3 x101_4).f0).length : Int) (wrap64 (x109_5 + 1)) a0_0 l0_1 l0_2 l0_3 a0_4 l0_5) = some r := by rw [if_pos rfl] at H; exact H
            clear H
            have H := H1
            clear H1
            have H' := Aside0.mk H
            clear H
            have p468 : 0 ≤ (x109_5 : Int) := sqd
            have q468 : x109_5 < (((rd_T66 l3 x101_4).f0).length : Int) := sqd
            obtain ⟨ad468, e468, hx468_0⟩ := Kd.at_int HR466_0.out x109_5 p468 q468
            cases e468
            replace hx468_0 := sqa HB hx468_0
            replace p468 := eq_true p468
            replace q468 := eq_true q468
            have hnb108 := NB454_467.out
            have hnc108 := NB467_454.out
            obtain ⟨hcz109_0, hcz109_1, hcz109_2, hcz109_3, hcz109_4, hcz109_5, hfz109_0, hfz109_1, hfz109_2, hfz109_3, hfz109_4, hfz109_5⟩ := sqc6 BK454
            have p469 : 0 ≤ (x101_4 : Int) := sqd
            have q469 : x101_4 < (l0_3.length : Int) := sqd
            obtain ⟨ad469, e469, hx469_0, hx469_1, hx469_2, hx469_3⟩ := at_T60 HR0_3.out x101_4 p469 q469
            cases e469
            replace hx469_0 := sqa HB hx469_0
            replace hx469_1 := sqa HB hx469_1
            replace hx469_2 := sqa HB hx469_2
            replace hx469_3 := sqa HB hx469_3
            replace p469 := eq_true p469
            replace q469 := eq_true q469
            go_wp2_with (first | ((with_reducible refine gate_callee (f := 31) rfl ?_); refine sqL (some 119) Try.func31 #[.agg #[.int .i64 ((rd_T60 l0_3 x101_4).f0), .int .i64 ((rd_T60 l0_3 x101_4).f1), .int .i64 ((rd_T60 l0_3 x101_4).f2), .int .i64 ((rd_T60 l0_3 x101_4).f3)], .int .i64 (rd ((rd_T66 l3 x101_4).f0) x109_5)] ?_; (with_reducible refine (impl_ValHas.calls k5 ((rd_T60 l0_3 x101_4).f0) ((rd_T60 l0_3 x101_4).f1) ((rd_T60 l0_3 x101_4).f2) ((rd_T60 l0_3 x101_4).f3) (rd ((rd_T66 l3 x101_4).f0) x109_5) true _ A106.out).mono ?_); rintro e w110 ⟨rfl, hb⟩; refine ⟨_, rfl, ?_⟩; refine sqM2 BK454 BK467 hb ?_; clear BK454 BK467; intro BK454 BK467; replace HB := sqs HB hb; (try clear hb)))
            go_roundg k5
            case measure => have := HJ4.out; have := HK2.out; have := HK3.out; have := HK4.out; have := HK5.out; omega
            case rel => exact ⟨(wrap64 (x109_5 + 1)), (by first | rfl | (simp; done) | (simp [*]; done)), H', ⟨by have := HJ4.out; have := HK2.out; have := HK3.out; have := HK4.out; have := HK5.out; omega⟩, sqk BK454, sqk BK467, sqh HB⟩
       have c37b0 := decide_eq_true c37
       clear c37
       replace H := sqi H
       rcases H with ⟨c38, H⟩ | ⟨c38, H⟩
       ·exact absurd H (by simp)
       have c38b0 := decide_eq_true c38
       clear c38
       replace H := sqi H
       rcases H with ⟨c39, H⟩ | ⟨c39, H⟩
       ·exact absurd H (by simp)
       have c39b0 := decide_eq_true c39
       clear c39
       replace H := sqi H
       rcases H with ⟨c40, H⟩ | ⟨c40, H⟩
       ·exact absurd H (by simp)
       have c40b0 := decide_eq_true c40
       clear c40
       replace H := sqj H
       rcases H with ⟨c41, H⟩ | ⟨c41, H⟩
       ·have c41b0 := decide_eq_true c41
        clear c41
        obtain ⟨bq42, hbq42⟩ : ∃ b_ : Bool, b_ = ((rd_T63 l0_2 x68_3).f0) := ⟨_, rfl⟩
        replace H : (if (bq42 = true) then (impl_AbsHas.l1 k3 l1 l3 l2 (l2.length : Int) (wrap64 (x68_3 + 1)) a0_0 l0_1 l0_2 l0_3 a0_4 l0_5) else (some false)) = some r := by rw [← hbq42] at H; exact H
        have Nbq42 := Aside0.mk hbq42
        clear hbq42
        rcases sqI ((bq42 = true)) with c43 | c43
        ·replace c43 := Bool.eq_false_iff.mpr c43
         subst c43
         have H1 : (some false) = some r := by rw [if_neg (show ¬ (false = true) by decide)] at H; exact H
         clear H
         have H := H1
         clear H1
         obtain rfl := Option.some.inj H
         have p459 : 0 ≤ (x68_3 : Int) := sqd
         have q459 : x68_3 < (l2.length : Int) := sqd
         obtain ⟨ad459, e459, hx459_0, hx459_1⟩ := at_T65 HR2.out x68_3 p459 q459
         cases e459
         replace hx459_0 := sqa HB hx459_0
         replace hx459_1 := sqa HB hx459_1
         replace p459 := eq_true p459
         replace q459 := eq_true q459
         go_wp2_with (first | ((with_reducible refine gate_dst (N := 12) rfl ?_); (try (refine gate_guard (by rfl) ?_; dsimp only)); refine sqx 12 #[.int .i64 0, .int .i64 0] 65 ?_; intro gb460 hg w53 hbox hb; have BK460 := Aside0.mk hbox; have GW460 := sqg HB hg; have GE460 := sqg HB hg; have NB454_460 := sqn BK454 hg; have NB460_454 := sqm BK454 hg; replace BK454 := sqb BK454 hb; replace HB := sqs HB hb; clear hb hbox hg; have hnb54 := NB460_454.out; have hnc54 := NB454_460.out; obtain ⟨hcz55_0, hcz55_1, hfz55_0, hfz55_1⟩ := sqc2 BK460; obtain ⟨hcz56_0, hcz56_1, hcz56_2, hcz56_3, hcz56_4, hcz56_5, hfz56_0, hfz56_1, hfz56_2, hfz56_3, hfz56_4, hfz56_5⟩ := sqc6 BK454; have p461 : 0 ≤ (x68_3 : Int) := sqd; have q461 : x68_3 < (l0_2.length : Int) := sqd; obtain ⟨ad461, A461_1, c461_1, e461, hx461_0, hx461_1, hx461_2, hx461_3, hx461_4, hx461_5, hl461_1, hi461_1⟩ := at_T63 HR0_2.out x68_3 p461 q461; (try rw [← Nbq42.out] at hx461_0); cases e461; have hn461_0 : ad461.block ≠ gb460 := Nat.ne_of_lt (Nat.lt_of_lt_of_le (by have := World.block_lt_of_cell? _ _ hx461_0; first | rwa [add_block] at this | exact this) GW460.out); have hn461_1 : ad461.block ≠ gb460 := Nat.ne_of_lt (Nat.lt_of_lt_of_le (by have := World.block_lt_of_cell? _ _ hx461_0; first | rwa [add_block] at this | exact this) GW460.out); replace hx461_0 := sqa HB hx461_0; replace hx461_1 := sqa HB hx461_1; replace hx461_2 := sqa HB hx461_2; replace hx461_3 := sqa HB hx461_3; replace hx461_4 := sqa HB hx461_4; replace hx461_5 := sqa HB hx461_5; have HR461_1 := Aside0.mk hi461_1; have HC461_1 := Aside0.mk hl461_1; clear hi461_1 hl461_1; replace hx461_0 := (cell_far (p := ⟨gb460, 0, none⟩) (by first | (rw [add_block]; exact hn461_0) | (show (Addr.add _ _).block ≠ _; rw [add_block]; exact hn461_0) | exact hn461_0) (.int .i64 ((rd_T65 l2 x68_3).f0))).trans hx461_0; replace hx461_1 := (cell_far (p := ⟨gb460, 0, none⟩) (by first | (rw [add_block]; exact hn461_0) | (show (Addr.add _ _).block ≠ _; rw [add_block]; exact hn461_0) | exact hn461_0) (.int .i64 ((rd_T65 l2 x68_3).f0))).trans hx461_1; replace hx461_2 := (cell_far (p := ⟨gb460, 0, none⟩) (by first | (rw [add_block]; exact hn461_0) | (show (Addr.add _ _).block ≠ _; rw [add_block]; exact hn461_0) | exact hn461_0) (.int .i64 ((rd_T65 l2 x68_3).f0))).trans hx461_2; replace hx461_3 := (cell_far (p := ⟨gb460, 0, none⟩) (by first | (rw [add_block]; exact hn461_0) | (show (Addr.add _ _).block ≠ _; rw [add_block]; exact hn461_0) | exact hn461_0) (.int .i64 ((rd_T65 l2 x68_3).f0))).trans hx461_3; replace hx461_4 := (cell_far (p := ⟨gb460, 0, none⟩) (by first | (rw [add_block]; exact hn461_0) | (show (Addr.add _ _).block ≠ _; rw [add_block]; exact hn461_0) | exact hn461_0) (.int .i64 ((rd_T65 l2 x68_3).f0))).trans hx461_4; replace hx461_5 := (cell_far (p := ⟨gb460, 0, none⟩) (by first | (rw [add_block]; exact hn461_0) | (show (Addr.add _ _).block ≠ _; rw [add_block]; exact hn461_0) | exact hn461_0) (.int .i64 ((rd_T65 l2 x68_3).f0))).trans hx461_5; replace hx461_0 := (cell_far (p := ⟨gb460, 1, none⟩) (by first | (rw [add_block]; exact hn461_1) | (show (Addr.add _ _).block ≠ _; rw [add_block]; exact hn461_1) | exact hn461_1) (.int .i64 ((rd_T65 l2 x68_3).f1))).trans hx461_0; replace hx461_1 := (cell_far (p := ⟨gb460, 1, none⟩) (by first | (rw [add_block]; exact hn461_1) | (show (Addr.add _ _).block ≠ _; rw [add_block]; exact hn461_1) | exact hn461_1) (.int .i64 ((rd_T65 l2 x68_3).f1))).trans hx461_1; replace hx461_2 := (cell_far (p := ⟨gb460, 1, none⟩) (by first | (rw [add_block]; exact hn461_1) | (show (Addr.add _ _).block ≠ _; rw [add_block]; exact hn461_1) | exact hn461_1) (.int .i64 ((rd_T65 l2 x68_3).f1))).trans hx461_2; replace hx461_3 := (cell_far (p := ⟨gb460, 1, none⟩) (by first | (rw [add_block]; exact hn461_1) | (show (Addr.add _ _).block ≠ _; rw [add_block]; exact hn461_1) | exact hn461_1) (.int .i64 ((rd_T65 l2 x68_3).f1))).trans hx461_3; replace hx461_4 := (cell_far (p := ⟨gb460, 1, none⟩) (by first | (rw [add_block]; exact hn461_1) | (show (Addr.add _ _).block ≠ _; rw [add_block]; exact hn461_1) | exact hn461_1) (.int .i64 ((rd_T65 l2 x68_3).f1))).trans hx461_4; replace hx461_5 := (cell_far (p := ⟨gb460, 1, none⟩) (by first | (rw [add_block]; exact hn461_1) | (show (Addr.add _ _).block ≠ _; rw [add_block]; exact hn461_1) | exact hn461_1) (.int .i64 ((rd_T65 l2 x68_3).f1))).trans hx461_5; clear hn461_0; clear hn461_1; replace p461 := eq_true p461; replace q461 := eq_true q461) | ((with_reducible refine gate_dst (N := 13) rfl ?_); (try (refine gate_guard (by rfl) ?_; dsimp only)); refine sqx 13 #[.bool false, .slice none 0 0, .int .i64 0, .int .i64 0, .int .i64 0, .int .i64 0] 63 ?_; intro gb462 hg w57 hbox hb; have n0_ := sqbb BK454 hb; have n1_ := Aside0.mk (blk_below (g := gb460) (o := .cells #[.int .i64 ((rd_T65 l2 x68_3).f0), .int .i64 ((rd_T65 l2 x68_3).f1)] 65 (0, 0)) (by refine sqt ?_; refine blk_put (cs := #[.int .i64 ((rd_T65 l2 x68_3).f0), .int .i64 0]) ?_ 1 _ rfl; refine sqt ?_; refine blk_put (cs := #[.int .i64 0, .int .i64 0]) ?_ 0 _ rfl; refine sqt ?_; exact BK460.out) hb); have n2_ := sqs HB hb; have n3_ := Aside0.mk (hbox); have n4_ := sqg HB hg; have n5_ := sqg HB hg; have n6_ := Aside0.mk ((by rw [hg]; exact Nat.ne_of_lt (blk_lt (g := gb454) (o := .cells #[.bool a0_0, .slice A0_1 l0_1.length c0_1, .slice (some ad461) l0_2.length c0_2, .slice A0_3 l0_3.length c0_3, .int .i64 a0_4, .slice A0_5 l0_5.length c0_5] 39 (0, 0)) (sqT BK454)) : gb454 ≠ gb462)); have n7_ := Aside0.mk ((by rw [hg]; exact Nat.ne_of_gt (blk_lt (g := gb454) (o := .cells #[.bool a0_0, .slice A0_1 l0_1.length c0_1, .slice (some ad461) l0_2.length c0_2, .slice A0_3 l0_3.length c0_3, .int .i64 a0_4, .slice A0_5 l0_5.length c0_5] 39 (0, 0)) (sqT BK454)) : gb462 ≠ gb454)); have n8_ := Aside0.mk ((by rw [hg]; exact Nat.ne_of_lt (blk_lt (g := gb460) (o := .cells #[.int .i64 ((rd_T65 l2 x68_3).f0), .int .i64 ((rd_T65 l2 x68_3).f1)] 65 (0, 0)) (by refine sqt ?_; refine blk_put (cs := #[.int .i64 ((rd_T65 l2 x68_3).f0), .int .i64 0]) ?_ 1 _ rfl; refine sqt ?_; refine blk_put (cs := #[.int .i64 0, .int .i64 0]) ?_ 0 _ rfl; refine sqt ?_; exact BK460.out)) : gb460 ≠ gb462)); have n9_ := Aside0.mk ((by rw [hg]; exact Nat.ne_of_gt (blk_lt (g := gb460) (o := .cells #[.int .i64 ((rd_T65 l2 x68_3).f0), .int .i64 ((rd_T65 l2 x68_3).f1)] 65 (0, 0)) (by refine sqt ?_; refine blk_put (cs := #[.int .i64 ((rd_T65 l2 x68_3).f0), .int .i64 0]) ?_ 1 _ rfl; refine sqt ?_; refine blk_put (cs := #[.int .i64 0, .int .i64 0]) ?_ 0 _ rfl; refine sqt ?_; exact BK460.out)) : gb462 ≠ gb460)); clear BK454; clear BK460; clear HB; have BK454 := n0_; have BK460 := n1_; have HB := n2_; have BK462 := n3_; have GW462 := n4_; have GE462 := n5_; have NB454_462 := n6_; have NB462_454 := n7_; have NB460_462 := n8_; have NB462_460 := n9_; clear n0_ n1_ n2_ n3_ n4_ n5_ n6_ n7_ n8_ n9_; clear hb hbox hg; have hnb58 := NB462_454.out; have hnc58 := NB454_462.out; have hnb59 := NB462_460.out; have hnc59 := NB460_462.out; obtain ⟨hcz60_0, hcz60_1, hcz60_2, hcz60_3, hcz60_4, hcz60_5, hfz60_0, hfz60_1, hfz60_2, hfz60_3, hfz60_4, hfz60_5⟩ := sqc6 BK462; obtain ⟨hcz61_0, hcz61_1, hfz61_0, hfz61_1⟩ := sqc2 BK460))
         go_ret
         exact sqe HB
        subst c43
        have H1 : (impl_AbsHas.l1 k3 l1 l3 l2 (l2.length : Int) (wrap64 (x68_3 + 1)) a0_0 l0_1 l0_2 l0_3 a0_4 l0_5) = some r := by rw [if_pos rfl] at H; exact H
        clear H
        have H := H1
        clear H1
        have H' := Aside0.mk H
        clear H
        have p459 : 0 ≤ (x68_3 : Int) := sqd
        have q459 : x68_3 < (l2.length : Int) := sqd
        obtain ⟨ad459, e459, hx459_0, hx459_1⟩ := at_T65 HR2.out x68_3 p459 q459
        cases e459
        replace hx459_0 := sqa HB hx459_0
        replace hx459_1 := sqa HB hx459_1
        replace p459 := eq_true p459
        replace q459 := eq_true q459
        go_wp2_with (first | ((with_reducible refine gate_dst (N := 12) rfl ?_); (try (refine gate_guard (by rfl) ?_; dsimp only)); refine sqx 12 #[.int .i64 0, .int .i64 0] 65 ?_; intro gb460 hg w44 hbox hb; have BK460 := Aside0.mk hbox; have GW460 := sqg HB hg; have GE460 := sqg HB hg; have NB454_460 := sqn BK454 hg; have NB460_454 := sqm BK454 hg; replace BK454 := sqb BK454 hb; replace HB := sqs HB hb; clear hb hbox hg; have hnb45 := NB460_454.out; have hnc45 := NB454_460.out; obtain ⟨hcz46_0, hcz46_1, hfz46_0, hfz46_1⟩ := sqc2 BK460; obtain ⟨hcz47_0, hcz47_1, hcz47_2, hcz47_3, hcz47_4, hcz47_5, hfz47_0, hfz47_1, hfz47_2, hfz47_3, hfz47_4, hfz47_5⟩ := sqc6 BK454; have p461 : 0 ≤ (x68_3 : Int) := sqd; have q461 : x68_3 < (l0_2.length : Int) := sqd; obtain ⟨ad461, A461_1, c461_1, e461, hx461_0, hx461_1, hx461_2, hx461_3, hx461_4, hx461_5, hl461_1, hi461_1⟩ := at_T63 HR0_2.out x68_3 p461 q461; (try rw [← Nbq42.out] at hx461_0); cases e461; have hn461_0 : ad461.block ≠ gb460 := Nat.ne_of_lt (Nat.lt_of_lt_of_le (by have := World.block_lt_of_cell? _ _ hx461_0; first | rwa [add_block] at this | exact this) GW460.out); have hn461_1 : ad461.block ≠ gb460 := Nat.ne_of_lt (Nat.lt_of_lt_of_le (by have := World.block_lt_of_cell? _ _ hx461_0; first | rwa [add_block] at this | exact this) GW460.out); replace hx461_0 := sqa HB hx461_0; replace hx461_1 := sqa HB hx461_1; replace hx461_2 := sqa HB hx461_2; replace hx461_3 := sqa HB hx461_3; replace hx461_4 := sqa HB hx461_4; replace hx461_5 := sqa HB hx461_5; have HR461_1 := Aside0.mk hi461_1; have HC461_1 := Aside0.mk hl461_1; clear hi461_1 hl461_1; replace hx461_0 := (cell_far (p := ⟨gb460, 0, none⟩) (by first | (rw [add_block]; exact hn461_0) | (show (Addr.add _ _).block ≠ _; rw [add_block]; exact hn461_0) | exact hn461_0) (.int .i64 ((rd_T65 l2 x68_3).f0))).trans hx461_0; replace hx461_1 := (cell_far (p := ⟨gb460, 0, none⟩) (by first | (rw [add_block]; exact hn461_0) | (show (Addr.add _ _).block ≠ _; rw [add_block]; exact hn461_0) | exact hn461_0) (.int .i64 ((rd_T65 l2 x68_3).f0))).trans hx461_1; replace hx461_2 := (cell_far (p := ⟨gb460, 0, none⟩) (by first | (rw [add_block]; exact hn461_0) | (show (Addr.add _ _).block ≠ _; rw [add_block]; exact hn461_0) | exact hn461_0) (.int .i64 ((rd_T65 l2 x68_3).f0))).trans hx461_2; replace hx461_3 := (cell_far (p := ⟨gb460, 0, none⟩) (by first | (rw [add_block]; exact hn461_0) | (show (Addr.add _ _).block ≠ _; rw [add_block]; exact hn461_0) | exact hn461_0) (.int .i64 ((rd_T65 l2 x68_3).f0))).trans hx461_3; replace hx461_4 := (cell_far (p := ⟨gb460, 0, none⟩) (by first | (rw [add_block]; exact hn461_0) | (show (Addr.add _ _).block ≠ _; rw [add_block]; exact hn461_0) | exact hn461_0) (.int .i64 ((rd_T65 l2 x68_3).f0))).trans hx461_4; replace hx461_5 := (cell_far (p := ⟨gb460, 0, none⟩) (by first | (rw [add_block]; exact hn461_0) | (show (Addr.add _ _).block ≠ _; rw [add_block]; exact hn461_0) | exact hn461_0) (.int .i64 ((rd_T65 l2 x68_3).f0))).trans hx461_5; replace hx461_0 := (cell_far (p := ⟨gb460, 1, none⟩) (by first | (rw [add_block]; exact hn461_1) | (show (Addr.add _ _).block ≠ _; rw [add_block]; exact hn461_1) | exact hn461_1) (.int .i64 ((rd_T65 l2 x68_3).f1))).trans hx461_0; replace hx461_1 := (cell_far (p := ⟨gb460, 1, none⟩) (by first | (rw [add_block]; exact hn461_1) | (show (Addr.add _ _).block ≠ _; rw [add_block]; exact hn461_1) | exact hn461_1) (.int .i64 ((rd_T65 l2 x68_3).f1))).trans hx461_1; replace hx461_2 := (cell_far (p := ⟨gb460, 1, none⟩) (by first | (rw [add_block]; exact hn461_1) | (show (Addr.add _ _).block ≠ _; rw [add_block]; exact hn461_1) | exact hn461_1) (.int .i64 ((rd_T65 l2 x68_3).f1))).trans hx461_2; replace hx461_3 := (cell_far (p := ⟨gb460, 1, none⟩) (by first | (rw [add_block]; exact hn461_1) | (show (Addr.add _ _).block ≠ _; rw [add_block]; exact hn461_1) | exact hn461_1) (.int .i64 ((rd_T65 l2 x68_3).f1))).trans hx461_3; replace hx461_4 := (cell_far (p := ⟨gb460, 1, none⟩) (by first | (rw [add_block]; exact hn461_1) | (show (Addr.add _ _).block ≠ _; rw [add_block]; exact hn461_1) | exact hn461_1) (.int .i64 ((rd_T65 l2 x68_3).f1))).trans hx461_4; replace hx461_5 := (cell_far (p := ⟨gb460, 1, none⟩) (by first | (rw [add_block]; exact hn461_1) | (show (Addr.add _ _).block ≠ _; rw [add_block]; exact hn461_1) | exact hn461_1) (.int .i64 ((rd_T65 l2 x68_3).f1))).trans hx461_5; clear hn461_0; clear hn461_1; replace p461 := eq_true p461; replace q461 := eq_true q461) | ((with_reducible refine gate_dst (N := 13) rfl ?_); (try (refine gate_guard (by rfl) ?_; dsimp only)); refine sqx 13 #[.bool false, .slice none 0 0, .int .i64 0, .int .i64 0, .int .i64 0, .int .i64 0] 63 ?_; intro gb462 hg w48 hbox hb; have n0_ := sqbb BK454 hb; have n1_ := Aside0.mk (blk_below (g := gb460) (o := .cells #[.int .i64 ((rd_T65 l2 x68_3).f0), .int .i64 ((rd_T65 l2 x68_3).f1)] 65 (0, 0)) (by refine sqt ?_; refine blk_put (cs := #[.int .i64 ((rd_T65 l2 x68_3).f0), .int .i64 0]) ?_ 1 _ rfl; refine sqt ?_; refine blk_put (cs := #[.int .i64 0, .int .i64 0]) ?_ 0 _ rfl; refine sqt ?_; exact BK460.out) hb); have n2_ := sqs HB hb; have n3_ := Aside0.mk (hbox); have n4_ := sqg HB hg; have n5_ := sqg HB hg; have n6_ := Aside0.mk ((by rw [hg]; exact Nat.ne_of_lt (blk_lt (g := gb454) (o := .cells #[.bool a0_0, .slice A0_1 l0_1.length c0_1, .slice (some ad461) l0_2.length c0_2, .slice A0_3 l0_3.length c0_3, .int .i64 a0_4, .slice A0_5 l0_5.length c0_5] 39 (0, 0)) (sqT BK454)) : gb454 ≠ gb462)); have n7_ := Aside0.mk ((by rw [hg]; exact Nat.ne_of_gt (blk_lt (g := gb454) (o := .cells #[.bool a0_0, .slice A0_1 l0_1.length c0_1, .slice (some ad461) l0_2.length c0_2, .slice A0_3 l0_3.length c0_3, .int .i64 a0_4, .slice A0_5 l0_5.length c0_5] 39 (0, 0)) (sqT BK454)) : gb462 ≠ gb454)); have n8_ := Aside0.mk ((by rw [hg]; exact Nat.ne_of_lt (blk_lt (g := gb460) (o := .cells #[.int .i64 ((rd_T65 l2 x68_3).f0), .int .i64 ((rd_T65 l2 x68_3).f1)] 65 (0, 0)) (by refine sqt ?_; refine blk_put (cs := #[.int .i64 ((rd_T65 l2 x68_3).f0), .int .i64 0]) ?_ 1 _ rfl; refine sqt ?_; refine blk_put (cs := #[.int .i64 0, .int .i64 0]) ?_ 0 _ rfl; refine sqt ?_; exact BK460.out)) : gb460 ≠ gb462)); have n9_ := Aside0.mk ((by rw [hg]; exact Nat.ne_of_gt (blk_lt (g := gb460) (o := .cells #[.int .i64 ((rd_T65 l2 x68_3).f0), .int .i64 ((rd_T65 l2 x68_3).f1)] 65 (0, 0)) (by refine sqt ?_; refine blk_put (cs := #[.int .i64 ((rd_T65 l2 x68_3).f0), .int .i64 0]) ?_ 1 _ rfl; refine sqt ?_; refine blk_put (cs := #[.int .i64 0, .int .i64 0]) ?_ 0 _ rfl; refine sqt ?_; exact BK460.out)) : gb462 ≠ gb460)); clear BK454; clear BK460; clear HB; have BK454 := n0_; have BK460 := n1_; have HB := n2_; have BK462 := n3_; have GW462 := n4_; have GE462 := n5_; have NB454_462 := n6_; have NB462_454 := n7_; have NB460_462 := n8_; have NB462_460 := n9_; clear n0_ n1_ n2_ n3_ n4_ n5_ n6_ n7_ n8_ n9_; clear hb hbox hg; have hnb49 := NB462_454.out; have hnc49 := NB454_462.out; have hnb50 := NB462_460.out; have hnc50 := NB460_462.out; obtain ⟨hcz51_0, hcz51_1, hcz51_2, hcz51_3, hcz51_4, hcz51_5, hfz51_0, hfz51_1, hfz51_2, hfz51_3, hfz51_4, hfz51_5⟩ := sqc6 BK462; obtain ⟨hcz52_0, hcz52_1, hfz52_0, hfz52_1⟩ := sqc2 BK460))
        go_roundg k3
        case measure => have := HJ4.out; have := HK2.out; have := HK3.out; omega
        case rel => exact ⟨(wrap64 (x68_3 + 1)), (by first | rfl | (simp; done) | (simp [*]; done)), H', ⟨by have := HJ4.out; have := HK2.out; have := HK3.out; omega⟩, ⟨sqT BK454⟩, sqh HB⟩
       have c41b0 := decide_eq_false c41
       clear c41
       replace H := Option.bind_eq_some_iff.mp H
       obtain ⟨t463, A620, H⟩ := H
       try dsimp only at H
       have A62 := Aside0.mk A620
       clear A620
       rcases sqI (t463 = true) with c63 | c63
       ·replace c63 := Bool.eq_false_iff.mpr c63
        subst c63
        have H1 : (some false) = some r := by rw [if_neg (show ¬ (false = true) by decide)] at H; exact H
        clear H
        have H := H1
        clear H1
        obtain rfl := Option.some.inj H
        have p459 : 0 ≤ (x68_3 : Int) := sqd
        have q459 : x68_3 < (l2.length : Int) := sqd
        obtain ⟨ad459, e459, hx459_0, hx459_1⟩ := at_T65 HR2.out x68_3 p459 q459
        cases e459
        replace hx459_0 := sqa HB hx459_0
        replace hx459_1 := sqa HB hx459_1
        replace p459 := eq_true p459
        replace q459 := eq_true q459
        go_wp2_with (first | ((with_reducible refine gate_dst (N := 12) rfl ?_); (try (refine gate_guard (by rfl) ?_; dsimp only)); refine sqx 12 #[.int .i64 0, .int .i64 0] 65 ?_; intro gb460 hg w86 hbox hb; have BK460 := Aside0.mk hbox; have GW460 := sqg HB hg; have GE460 := sqg HB hg; have NB454_460 := sqn BK454 hg; have NB460_454 := sqm BK454 hg; replace BK454 := sqb BK454 hb; replace HB := sqs HB hb; clear hb hbox hg; have hnb87 := NB460_454.out; have hnc87 := NB454_460.out; obtain ⟨hcz88_0, hcz88_1, hfz88_0, hfz88_1⟩ := sqc2 BK460; obtain ⟨hcz89_0, hcz89_1, hcz89_2, hcz89_3, hcz89_4, hcz89_5, hfz89_0, hfz89_1, hfz89_2, hfz89_3, hfz89_4, hfz89_5⟩ := sqc6 BK454; have p461 : 0 ≤ (x68_3 : Int) := sqd; have q461 : x68_3 < (l0_2.length : Int) := sqd; obtain ⟨ad461, A461_1, c461_1, e461, hx461_0, hx461_1, hx461_2, hx461_3, hx461_4, hx461_5, hl461_1, hi461_1⟩ := at_T63 HR0_2.out x68_3 p461 q461; cases e461; have hn461_0 : ad461.block ≠ gb460 := Nat.ne_of_lt (Nat.lt_of_lt_of_le (by have := World.block_lt_of_cell? _ _ hx461_0; first | rwa [add_block] at this | exact this) GW460.out); have hn461_1 : ad461.block ≠ gb460 := Nat.ne_of_lt (Nat.lt_of_lt_of_le (by have := World.block_lt_of_cell? _ _ hx461_0; first | rwa [add_block] at this | exact this) GW460.out); replace hx461_0 := sqa HB hx461_0; replace hx461_1 := sqa HB hx461_1; replace hx461_2 := sqa HB hx461_2; replace hx461_3 := sqa HB hx461_3; replace hx461_4 := sqa HB hx461_4; replace hx461_5 := sqa HB hx461_5; have HR461_1 := Aside0.mk hi461_1; have HC461_1 := Aside0.mk hl461_1; clear hi461_1 hl461_1; replace hx461_0 := (cell_far (p := ⟨gb460, 0, none⟩) (by first | (rw [add_block]; exact hn461_0) | (show (Addr.add _ _).block ≠ _; rw [add_block]; exact hn461_0) | exact hn461_0) (.int .i64 ((rd_T65 l2 x68_3).f0))).trans hx461_0; replace hx461_1 := (cell_far (p := ⟨gb460, 0, none⟩) (by first | (rw [add_block]; exact hn461_0) | (show (Addr.add _ _).block ≠ _; rw [add_block]; exact hn461_0) | exact hn461_0) (.int .i64 ((rd_T65 l2 x68_3).f0))).trans hx461_1; replace hx461_2 := (cell_far (p := ⟨gb460, 0, none⟩) (by first | (rw [add_block]; exact hn461_0) | (show (Addr.add _ _).block ≠ _; rw [add_block]; exact hn461_0) | exact hn461_0) (.int .i64 ((rd_T65 l2 x68_3).f0))).trans hx461_2; replace hx461_3 := (cell_far (p := ⟨gb460, 0, none⟩) (by first | (rw [add_block]; exact hn461_0) | (show (Addr.add _ _).block ≠ _; rw [add_block]; exact hn461_0) | exact hn461_0) (.int .i64 ((rd_T65 l2 x68_3).f0))).trans hx461_3; replace hx461_4 := (cell_far (p := ⟨gb460, 0, none⟩) (by first | (rw [add_block]; exact hn461_0) | (show (Addr.add _ _).block ≠ _; rw [add_block]; exact hn461_0) | exact hn461_0) (.int .i64 ((rd_T65 l2 x68_3).f0))).trans hx461_4; replace hx461_5 := (cell_far (p := ⟨gb460, 0, none⟩) (by first | (rw [add_block]; exact hn461_0) | (show (Addr.add _ _).block ≠ _; rw [add_block]; exact hn461_0) | exact hn461_0) (.int .i64 ((rd_T65 l2 x68_3).f0))).trans hx461_5; replace hx461_0 := (cell_far (p := ⟨gb460, 1, none⟩) (by first | (rw [add_block]; exact hn461_1) | (show (Addr.add _ _).block ≠ _; rw [add_block]; exact hn461_1) | exact hn461_1) (.int .i64 ((rd_T65 l2 x68_3).f1))).trans hx461_0; replace hx461_1 := (cell_far (p := ⟨gb460, 1, none⟩) (by first | (rw [add_block]; exact hn461_1) | (show (Addr.add _ _).block ≠ _; rw [add_block]; exact hn461_1) | exact hn461_1) (.int .i64 ((rd_T65 l2 x68_3).f1))).trans hx461_1; replace hx461_2 := (cell_far (p := ⟨gb460, 1, none⟩) (by first | (rw [add_block]; exact hn461_1) | (show (Addr.add _ _).block ≠ _; rw [add_block]; exact hn461_1) | exact hn461_1) (.int .i64 ((rd_T65 l2 x68_3).f1))).trans hx461_2; replace hx461_3 := (cell_far (p := ⟨gb460, 1, none⟩) (by first | (rw [add_block]; exact hn461_1) | (show (Addr.add _ _).block ≠ _; rw [add_block]; exact hn461_1) | exact hn461_1) (.int .i64 ((rd_T65 l2 x68_3).f1))).trans hx461_3; replace hx461_4 := (cell_far (p := ⟨gb460, 1, none⟩) (by first | (rw [add_block]; exact hn461_1) | (show (Addr.add _ _).block ≠ _; rw [add_block]; exact hn461_1) | exact hn461_1) (.int .i64 ((rd_T65 l2 x68_3).f1))).trans hx461_4; replace hx461_5 := (cell_far (p := ⟨gb460, 1, none⟩) (by first | (rw [add_block]; exact hn461_1) | (show (Addr.add _ _).block ≠ _; rw [add_block]; exact hn461_1) | exact hn461_1) (.int .i64 ((rd_T65 l2 x68_3).f1))).trans hx461_5; clear hn461_0; clear hn461_1; replace p461 := eq_true p461; replace q461 := eq_true q461) | ((with_reducible refine gate_dst (N := 13) rfl ?_); (try (refine gate_guard (by rfl) ?_; dsimp only)); refine sqx 13 #[.bool false, .slice none 0 0, .int .i64 0, .int .i64 0, .int .i64 0, .int .i64 0] 63 ?_; intro gb462 hg w90 hbox hb; have n0_ := sqbb BK454 hb; have n1_ := Aside0.mk (blk_below (g := gb460) (o := .cells #[.int .i64 ((rd_T65 l2 x68_3).f0), .int .i64 ((rd_T65 l2 x68_3).f1)] 65 (0, 0)) (by refine sqt ?_; refine blk_put (cs := #[.int .i64 ((rd_T65 l2 x68_3).f0), .int .i64 0]) ?_ 1 _ rfl; refine sqt ?_; refine blk_put (cs := #[.int .i64 0, .int .i64 0]) ?_ 0 _ rfl; refine sqt ?_; exact BK460.out) hb); have n2_ := sqs HB hb; have n3_ := Aside0.mk (hbox); have n4_ := sqg HB hg; have n5_ := sqg HB hg; have n6_ := Aside0.mk ((by rw [hg]; exact Nat.ne_of_lt (blk_lt (g := gb454) (o := .cells #[.bool a0_0, .slice A0_1 l0_1.length c0_1, .slice (some ad461) l0_2.length c0_2, .slice A0_3 l0_3.length c0_3, .int .i64 a0_4, .slice A0_5 l0_5.length c0_5] 39 (0, 0)) (sqT BK454)) : gb454 ≠ gb462)); have n7_ := Aside0.mk ((by rw [hg]; exact Nat.ne_of_gt (blk_lt (g := gb454) (o := .cells #[.bool a0_0, .slice A0_1 l0_1.length c0_1, .slice (some ad461) l0_2.length c0_2, .slice A0_3 l0_3.length c0_3, .int .i64 a0_4, .slice A0_5 l0_5.length c0_5] 39 (0, 0)) (sqT BK454)) : gb462 ≠ gb454)); have n8_ := Aside0.mk ((by rw [hg]; exact Nat.ne_of_lt (blk_lt (g := gb460) (o := .cells #[.int .i64 ((rd_T65 l2 x68_3).f0), .int .i64 ((rd_T65 l2 x68_3).f1)] 65 (0, 0)) (by refine sqt ?_; refine blk_put (cs := #[.int .i64 ((rd_T65 l2 x68_3).f0), .int .i64 0]) ?_ 1 _ rfl; refine sqt ?_; refine blk_put (cs := #[.int .i64 0, .int .i64 0]) ?_ 0 _ rfl; refine sqt ?_; exact BK460.out)) : gb460 ≠ gb462)); have n9_ := Aside0.mk ((by rw [hg]; exact Nat.ne_of_gt (blk_lt (g := gb460) (o := .cells #[.int .i64 ((rd_T65 l2 x68_3).f0), .int .i64 ((rd_T65 l2 x68_3).f1)] 65 (0, 0)) (by refine sqt ?_; refine blk_put (cs := #[.int .i64 ((rd_T65 l2 x68_3).f0), .int .i64 0]) ?_ 1 _ rfl; refine sqt ?_; refine blk_put (cs := #[.int .i64 0, .int .i64 0]) ?_ 0 _ rfl; refine sqt ?_; exact BK460.out)) : gb462 ≠ gb460)); clear BK454; clear BK460; clear HB; have BK454 := n0_; have BK460 := n1_; have HB := n2_; have BK462 := n3_; have GW462 := n4_; have GE462 := n5_; have NB454_462 := n6_; have NB462_454 := n7_; have NB460_462 := n8_; have NB462_460 := n9_; clear n0_ n1_ n2_ n3_ n4_ n5_ n6_ n7_ n8_ n9_; clear hb hbox hg; have hnb91 := NB462_454.out; have hnc91 := NB454_462.out; have hnb92 := NB462_460.out; have hnc92 := NB460_462.out; obtain ⟨hcz93_0, hcz93_1, hcz93_2, hcz93_3, hcz93_4, hcz93_5, hfz93_0, hfz93_1, hfz93_2, hfz93_3, hfz93_4, hfz93_5⟩ := sqc6 BK462; obtain ⟨hcz94_0, hcz94_1, hfz94_0, hfz94_1⟩ := sqc2 BK460) | ((with_reducible refine gate_callee (f := 32) rfl ?_); refine sqL (some 88) Try.func32 #[.slice A461_1 ((rd_T63 l0_2 x68_3).f1).length c461_1, .int .i64 ((rd_T65 l2 x68_3).f0)] ?_; (with_reducible refine (impl_absHasArray.calls k3 _ _ ((rd_T63 l0_2 x68_3).f1) ((rd_T65 l2 x68_3).f0) false _ ?side1 ?side2 A62.out).mono ?_); (case side1 => exact Kd.C_below HR461_1.out (sqB HB)); (case side2 => exact HC461_1.out); rintro e w' ⟨rfl, ⟨nd, rfl⟩⟩; refine ⟨_, rfl, ?_⟩))
        go_ret
        exact sqe HB
       subst c63
       have H1 : ((impl_ValHas.f k3 ((rd_T63 l0_2 x68_3).f2.f0) ((rd_T63 l0_2 x68_3).f2.f1) ((rd_T63 l0_2 x68_3).f2.f2) ((rd_T63 l0_2 x68_3).f2.f3) ((rd_T65 l2 x68_3).f1)).bind fun t464 => (if t464 = true then (impl_AbsHas.l1 k3 l1 l3 l2 (l2.length : Int) (wrap64 (x68_3 + 1)) a0_0 l0_1 l0_2 l0_3 a0_4 l0_5) else (some false))) = some r := by rw [if_pos rfl] at H; exact H
       clear H
       have H := H1
       clear H1
       replace H := Option.bind_eq_some_iff.mp H
       obtain ⟨t464, A640, H⟩ := H
       try dsimp only at H
       have A64 := Aside0.mk A640
       clear A640
       rcases sqI (t464 = true) with c65 | c65
       ·replace c65 := Bool.eq_false_iff.mpr c65
        subst c65
        have H1 : (some false) = some r := by rw [if_neg (show ¬ (false = true) by decide)] at H; exact H
        clear H
        have H := H1
        clear H1
        obtain rfl := Option.some.inj H
        have p459 : 0 ≤ (x68_3 : Int) := sqd
        have q459 : x68_3 < (l2.length : Int) := sqd
        obtain ⟨ad459, e459, hx459_0, hx459_1⟩ := at_T65 HR2.out x68_3 p459 q459
        cases e459
        replace hx459_0 := sqa HB hx459_0
        replace hx459_1 := sqa HB hx459_1
        replace p459 := eq_true p459
        replace q459 := eq_true q459
        go_wp2_with (first | ((with_reducible refine gate_dst (N := 12) rfl ?_); (try (refine gate_guard (by rfl) ?_; dsimp only)); refine sqx 12 #[.int .i64 0, .int .i64 0] 65 ?_; intro gb460 hg w76 hbox hb; have BK460 := Aside0.mk hbox; have GW460 := sqg HB hg; have GE460 := sqg HB hg; have NB454_460 := sqn BK454 hg; have NB460_454 := sqm BK454 hg; replace BK454 := sqb BK454 hb; replace HB := sqs HB hb; clear hb hbox hg; have hnb77 := NB460_454.out; have hnc77 := NB454_460.out; obtain ⟨hcz78_0, hcz78_1, hfz78_0, hfz78_1⟩ := sqc2 BK460; obtain ⟨hcz79_0, hcz79_1, hcz79_2, hcz79_3, hcz79_4, hcz79_5, hfz79_0, hfz79_1, hfz79_2, hfz79_3, hfz79_4, hfz79_5⟩ := sqc6 BK454; have p461 : 0 ≤ (x68_3 : Int) := sqd; have q461 : x68_3 < (l0_2.length : Int) := sqd; obtain ⟨ad461, A461_1, c461_1, e461, hx461_0, hx461_1, hx461_2, hx461_3, hx461_4, hx461_5, hl461_1, hi461_1⟩ := at_T63 HR0_2.out x68_3 p461 q461; cases e461; have hn461_0 : ad461.block ≠ gb460 := Nat.ne_of_lt (Nat.lt_of_lt_of_le (by have := World.block_lt_of_cell? _ _ hx461_0; first | rwa [add_block] at this | exact this) GW460.out); have hn461_1 : ad461.block ≠ gb460 := Nat.ne_of_lt (Nat.lt_of_lt_of_le (by have := World.block_lt_of_cell? _ _ hx461_0; first | rwa [add_block] at this | exact this) GW460.out); replace hx461_0 := sqa HB hx461_0; replace hx461_1 := sqa HB hx461_1; replace hx461_2 := sqa HB hx461_2; replace hx461_3 := sqa HB hx461_3; replace hx461_4 := sqa HB hx461_4; replace hx461_5 := sqa HB hx461_5; have HR461_1 := Aside0.mk hi461_1; have HC461_1 := Aside0.mk hl461_1; clear hi461_1 hl461_1; replace hx461_0 := (cell_far (p := ⟨gb460, 0, none⟩) (by first | (rw [add_block]; exact hn461_0) | (show (Addr.add _ _).block ≠ _; rw [add_block]; exact hn461_0) | exact hn461_0) (.int .i64 ((rd_T65 l2 x68_3).f0))).trans hx461_0; replace hx461_1 := (cell_far (p := ⟨gb460, 0, none⟩) (by first | (rw [add_block]; exact hn461_0) | (show (Addr.add _ _).block ≠ _; rw [add_block]; exact hn461_0) | exact hn461_0) (.int .i64 ((rd_T65 l2 x68_3).f0))).trans hx461_1; replace hx461_2 := (cell_far (p := ⟨gb460, 0, none⟩) (by first | (rw [add_block]; exact hn461_0) | (show (Addr.add _ _).block ≠ _; rw [add_block]; exact hn461_0) | exact hn461_0) (.int .i64 ((rd_T65 l2 x68_3).f0))).trans hx461_2; replace hx461_3 := (cell_far (p := ⟨gb460, 0, none⟩) (by first | (rw [add_block]; exact hn461_0) | (show (Addr.add _ _).block ≠ _; rw [add_block]; exact hn461_0) | exact hn461_0) (.int .i64 ((rd_T65 l2 x68_3).f0))).trans hx461_3; replace hx461_4 := (cell_far (p := ⟨gb460, 0, none⟩) (by first | (rw [add_block]; exact hn461_0) | (show (Addr.add _ _).block ≠ _; rw [add_block]; exact hn461_0) | exact hn461_0) (.int .i64 ((rd_T65 l2 x68_3).f0))).trans hx461_4; replace hx461_5 := (cell_far (p := ⟨gb460, 0, none⟩) (by first | (rw [add_block]; exact hn461_0) | (show (Addr.add _ _).block ≠ _; rw [add_block]; exact hn461_0) | exact hn461_0) (.int .i64 ((rd_T65 l2 x68_3).f0))).trans hx461_5; replace hx461_0 := (cell_far (p := ⟨gb460, 1, none⟩) (by first | (rw [add_block]; exact hn461_1) | (show (Addr.add _ _).block ≠ _; rw [add_block]; exact hn461_1) | exact hn461_1) (.int .i64 ((rd_T65 l2 x68_3).f1))).trans hx461_0; replace hx461_1 := (cell_far (p := ⟨gb460, 1, none⟩) (by first | (rw [add_block]; exact hn461_1) | (show (Addr.add _ _).block ≠ _; rw [add_block]; exact hn461_1) | exact hn461_1) (.int .i64 ((rd_T65 l2 x68_3).f1))).trans hx461_1; replace hx461_2 := (cell_far (p := ⟨gb460, 1, none⟩) (by first | (rw [add_block]; exact hn461_1) | (show (Addr.add _ _).block ≠ _; rw [add_block]; exact hn461_1) | exact hn461_1) (.int .i64 ((rd_T65 l2 x68_3).f1))).trans hx461_2; replace hx461_3 := (cell_far (p := ⟨gb460, 1, none⟩) (by first | (rw [add_block]; exact hn461_1) | (show (Addr.add _ _).block ≠ _; rw [add_block]; exact hn461_1) | exact hn461_1) (.int .i64 ((rd_T65 l2 x68_3).f1))).trans hx461_3; replace hx461_4 := (cell_far (p := ⟨gb460, 1, none⟩) (by first | (rw [add_block]; exact hn461_1) | (show (Addr.add _ _).block ≠ _; rw [add_block]; exact hn461_1) | exact hn461_1) (.int .i64 ((rd_T65 l2 x68_3).f1))).trans hx461_4; replace hx461_5 := (cell_far (p := ⟨gb460, 1, none⟩) (by first | (rw [add_block]; exact hn461_1) | (show (Addr.add _ _).block ≠ _; rw [add_block]; exact hn461_1) | exact hn461_1) (.int .i64 ((rd_T65 l2 x68_3).f1))).trans hx461_5; clear hn461_0; clear hn461_1; replace p461 := eq_true p461; replace q461 := eq_true q461) | ((with_reducible refine gate_dst (N := 13) rfl ?_); (try (refine gate_guard (by rfl) ?_; dsimp only)); refine sqx 13 #[.bool false, .slice none 0 0, .int .i64 0, .int .i64 0, .int .i64 0, .int .i64 0] 63 ?_; intro gb462 hg w80 hbox hb; have n0_ := sqbb BK454 hb; have n1_ := Aside0.mk (blk_below (g := gb460) (o := .cells #[.int .i64 ((rd_T65 l2 x68_3).f0), .int .i64 ((rd_T65 l2 x68_3).f1)] 65 (0, 0)) (by refine sqt ?_; refine blk_put (cs := #[.int .i64 ((rd_T65 l2 x68_3).f0), .int .i64 0]) ?_ 1 _ rfl; refine sqt ?_; refine blk_put (cs := #[.int .i64 0, .int .i64 0]) ?_ 0 _ rfl; refine sqt ?_; exact BK460.out) hb); have n2_ := sqs HB hb; have n3_ := Aside0.mk (hbox); have n4_ := sqg HB hg; have n5_ := sqg HB hg; have n6_ := Aside0.mk ((by rw [hg]; exact Nat.ne_of_lt (blk_lt (g := gb454) (o := .cells #[.bool a0_0, .slice A0_1 l0_1.length c0_1, .slice (some ad461) l0_2.length c0_2, .slice A0_3 l0_3.length c0_3, .int .i64 a0_4, .slice A0_5 l0_5.length c0_5] 39 (0, 0)) (sqT BK454)) : gb454 ≠ gb462)); have n7_ := Aside0.mk ((by rw [hg]; exact Nat.ne_of_gt (blk_lt (g := gb454) (o := .cells #[.bool a0_0, .slice A0_1 l0_1.length c0_1, .slice (some ad461) l0_2.length c0_2, .slice A0_3 l0_3.length c0_3, .int .i64 a0_4, .slice A0_5 l0_5.length c0_5] 39 (0, 0)) (sqT BK454)) : gb462 ≠ gb454)); have n8_ := Aside0.mk ((by rw [hg]; exact Nat.ne_of_lt (blk_lt (g := gb460) (o := .cells #[.int .i64 ((rd_T65 l2 x68_3).f0), .int .i64 ((rd_T65 l2 x68_3).f1)] 65 (0, 0)) (by refine sqt ?_; refine blk_put (cs := #[.int .i64 ((rd_T65 l2 x68_3).f0), .int .i64 0]) ?_ 1 _ rfl; refine sqt ?_; refine blk_put (cs := #[.int .i64 0, .int .i64 0]) ?_ 0 _ rfl; refine sqt ?_; exact BK460.out)) : gb460 ≠ gb462)); have n9_ := Aside0.mk ((by rw [hg]; exact Nat.ne_of_gt (blk_lt (g := gb460) (o := .cells #[.int .i64 ((rd_T65 l2 x68_3).f0), .int .i64 ((rd_T65 l2 x68_3).f1)] 65 (0, 0)) (by refine sqt ?_; refine blk_put (cs := #[.int .i64 ((rd_T65 l2 x68_3).f0), .int .i64 0]) ?_ 1 _ rfl; refine sqt ?_; refine blk_put (cs := #[.int .i64 0, .int .i64 0]) ?_ 0 _ rfl; refine sqt ?_; exact BK460.out)) : gb462 ≠ gb460)); clear BK454; clear BK460; clear HB; have BK454 := n0_; have BK460 := n1_; have HB := n2_; have BK462 := n3_; have GW462 := n4_; have GE462 := n5_; have NB454_462 := n6_; have NB462_454 := n7_; have NB460_462 := n8_; have NB462_460 := n9_; clear n0_ n1_ n2_ n3_ n4_ n5_ n6_ n7_ n8_ n9_; clear hb hbox hg; have hnb81 := NB462_454.out; have hnc81 := NB454_462.out; have hnb82 := NB462_460.out; have hnc82 := NB460_462.out; obtain ⟨hcz83_0, hcz83_1, hcz83_2, hcz83_3, hcz83_4, hcz83_5, hfz83_0, hfz83_1, hfz83_2, hfz83_3, hfz83_4, hfz83_5⟩ := sqc6 BK462; obtain ⟨hcz84_0, hcz84_1, hfz84_0, hfz84_1⟩ := sqc2 BK460) | ((with_reducible refine gate_callee (f := 32) rfl ?_); refine sqL (some 88) Try.func32 #[.slice A461_1 ((rd_T63 l0_2 x68_3).f1).length c461_1, .int .i64 ((rd_T65 l2 x68_3).f0)] ?_; (with_reducible refine (impl_absHasArray.calls k3 _ _ ((rd_T63 l0_2 x68_3).f1) ((rd_T65 l2 x68_3).f0) true _ ?side1 ?side2 A62.out).mono ?_); (case side1 => exact Kd.C_below HR461_1.out (sqB HB)); (case side2 => exact HC461_1.out); rintro e w' ⟨rfl, ⟨nd, rfl⟩⟩; refine ⟨_, rfl, ?_⟩) | (go_at_call 31; (with_reducible refine (impl_ValHas.calls k3 ((rd_T63 l0_2 x68_3).f2.f0) ((rd_T63 l0_2 x68_3).f2.f1) ((rd_T63 l0_2 x68_3).f2.f2) ((rd_T63 l0_2 x68_3).f2.f3) ((rd_T65 l2 x68_3).f1) false _ A64.out).mono ?_); rintro e w85 ⟨rfl, hb⟩; have n0_ := sqbb BK454 hb; have n1_ := sqbb BK460 hb; have n2_ := Aside0.mk (blk_below (g := gb462) (o := .cells #[.bool ((rd_T63 l0_2 x68_3).f0), .slice A461_1 ((rd_T63 l0_2 x68_3).f1).length c461_1, .int .i64 ((rd_T63 l0_2 x68_3).f2.f0), .int .i64 ((rd_T63 l0_2 x68_3).f2.f1), .int .i64 ((rd_T63 l0_2 x68_3).f2.f2), .int .i64 ((rd_T63 l0_2 x68_3).f2.f3)] 63 (0, 0)) (by refine sqt ?_; refine blk_put (cs := #[.bool ((rd_T63 l0_2 x68_3).f0), .slice A461_1 ((rd_T63 l0_2 x68_3).f1).length c461_1, .int .i64 ((rd_T63 l0_2 x68_3).f2.f0), .int .i64 ((rd_T63 l0_2 x68_3).f2.f1), .int .i64 ((rd_T63 l0_2 x68_3).f2.f2), .int .i64 0]) ?_ 5 _ rfl; refine sqt ?_; refine blk_put (cs := #[.bool ((rd_T63 l0_2 x68_3).f0), .slice A461_1 ((rd_T63 l0_2 x68_3).f1).length c461_1, .int .i64 ((rd_T63 l0_2 x68_3).f2.f0), .int .i64 ((rd_T63 l0_2 x68_3).f2.f1), .int .i64 0, .int .i64 0]) ?_ 4 _ rfl; refine sqt ?_; refine blk_put (cs := #[.bool ((rd_T63 l0_2 x68_3).f0), .slice A461_1 ((rd_T63 l0_2 x68_3).f1).length c461_1, .int .i64 ((rd_T63 l0_2 x68_3).f2.f0), .int .i64 0, .int .i64 0, .int .i64 0]) ?_ 3 _ rfl; refine sqt ?_; refine blk_put (cs := #[.bool ((rd_T63 l0_2 x68_3).f0), .slice A461_1 ((rd_T63 l0_2 x68_3).f1).length c461_1, .int .i64 0, .int .i64 0, .int .i64 0, .int .i64 0]) ?_ 2 _ rfl; refine sqt ?_; refine blk_put (cs := #[.bool ((rd_T63 l0_2 x68_3).f0), .slice none 0 0, .int .i64 0, .int .i64 0, .int .i64 0, .int .i64 0]) ?_ 1 _ rfl; refine sqt ?_; refine blk_put (cs := #[.bool false, .slice none 0 0, .int .i64 0, .int .i64 0, .int .i64 0, .int .i64 0]) ?_ 0 _ rfl; refine sqt ?_; exact BK462.out) hb); have n3_ := sqs HB hb; clear BK454; clear BK460; clear BK462; clear HB; have BK454 := n0_; have BK460 := n1_; have BK462 := n2_; have HB := n3_; clear n0_ n1_ n2_ n3_; (try clear hb)))
        go_ret
        exact sqe HB
       subst c65
       have H1 : (impl_AbsHas.l1 k3 l1 l3 l2 (l2.length : Int) (wrap64 (x68_3 + 1)) a0_0 l0_1 l0_2 l0_3 a0_4 l0_5) = some r := by rw [if_pos rfl] at H; exact H
       clear H
       have H := H1
       clear H1
       have H' := Aside0.mk H
       clear H
       have p459 : 0 ≤ (x68_3 : Int) := sqd
       have q459 : x68_3 < (l2.length : Int) := sqd
       obtain ⟨ad459, e459, hx459_0, hx459_1⟩ := at_T65 HR2.out x68_3 p459 q459
       cases e459
       replace hx459_0 := sqa HB hx459_0
       replace hx459_1 := sqa HB hx459_1
       replace p459 := eq_true p459
       replace q459 := eq_true q459
       go_wp2_with (first | ((with_reducible refine gate_dst (N := 12) rfl ?_); (try (refine gate_guard (by rfl) ?_; dsimp only)); refine sqx 12 #[.int .i64 0, .int .i64 0] 65 ?_; intro gb460 hg w66 hbox hb; have BK460 := Aside0.mk hbox; have GW460 := sqg HB hg; have GE460 := sqg HB hg; have NB454_460 := sqn BK454 hg; have NB460_454 := sqm BK454 hg; replace BK454 := sqb BK454 hb; replace HB := sqs HB hb; clear hb hbox hg; have hnb67 := NB460_454.out; have hnc67 := NB454_460.out; obtain ⟨hcz68_0, hcz68_1, hfz68_0, hfz68_1⟩ := sqc2 BK460; obtain ⟨hcz69_0, hcz69_1, hcz69_2, hcz69_3, hcz69_4, hcz69_5, hfz69_0, hfz69_1, hfz69_2, hfz69_3, hfz69_4, hfz69_5⟩ := sqc6 BK454; have p461 : 0 ≤ (x68_3 : Int) := sqd; have q461 : x68_3 < (l0_2.length : Int) := sqd; obtain ⟨ad461, A461_1, c461_1, e461, hx461_0, hx461_1, hx461_2, hx461_3, hx461_4, hx461_5, hl461_1, hi461_1⟩ := at_T63 HR0_2.out x68_3 p461 q461; cases e461; have hn461_0 : ad461.block ≠ gb460 := Nat.ne_of_lt (Nat.lt_of_lt_of_le (by have := World.block_lt_of_cell? _ _ hx461_0; first | rwa [add_block] at this | exact this) GW460.out); have hn461_1 : ad461.block ≠ gb460 := Nat.ne_of_lt (Nat.lt_of_lt_of_le (by have := World.block_lt_of_cell? _ _ hx461_0; first | rwa [add_block] at this | exact this) GW460.out); replace hx461_0 := sqa HB hx461_0; replace hx461_1 := sqa HB hx461_1; replace hx461_2 := sqa HB hx461_2; replace hx461_3 := sqa HB hx461_3; replace hx461_4 := sqa HB hx461_4; replace hx461_5 := sqa HB hx461_5; have HR461_1 := Aside0.mk hi461_1; have HC461_1 := Aside0.mk hl461_1; clear hi461_1 hl461_1; replace hx461_0 := (cell_far (p := ⟨gb460, 0, none⟩) (by first | (rw [add_block]; exact hn461_0) | (show (Addr.add _ _).block ≠ _; rw [add_block]; exact hn461_0) | exact hn461_0) (.int .i64 ((rd_T65 l2 x68_3).f0))).trans hx461_0; replace hx461_1 := (cell_far (p := ⟨gb460, 0, none⟩) (by first | (rw [add_block]; exact hn461_0) | (show (Addr.add _ _).block ≠ _; rw [add_block]; exact hn461_0) | exact hn461_0) (.int .i64 ((rd_T65 l2 x68_3).f0))).trans hx461_1; replace hx461_2 := (cell_far (p := ⟨gb460, 0, none⟩) (by first | (rw [add_block]; exact hn461_0) | (show (Addr.add _ _).block ≠ _; rw [add_block]; exact hn461_0) | exact hn461_0) (.int .i64 ((rd_T65 l2 x68_3).f0))).trans hx461_2; replace hx461_3 := (cell_far (p := ⟨gb460, 0, none⟩) (by first | (rw [add_block]; exact hn461_0) | (show (Addr.add _ _).block ≠ _; rw [add_block]; exact hn461_0) | exact hn461_0) (.int .i64 ((rd_T65 l2 x68_3).f0))).trans hx461_3; replace hx461_4 := (cell_far (p := ⟨gb460, 0, none⟩) (by first | (rw [add_block]; exact hn461_0) | (show (Addr.add _ _).block ≠ _; rw [add_block]; exact hn461_0) | exact hn461_0) (.int .i64 ((rd_T65 l2 x68_3).f0))).trans hx461_4; replace hx461_5 := (cell_far (p := ⟨gb460, 0, none⟩) (by first | (rw [add_block]; exact hn461_0) | (show (Addr.add _ _).block ≠ _; rw [add_block]; exact hn461_0) | exact hn461_0) (.int .i64 ((rd_T65 l2 x68_3).f0))).trans hx461_5; replace hx461_0 := (cell_far (p := ⟨gb460, 1, none⟩) (by first | (rw [add_block]; exact hn461_1) | (show (Addr.add _ _).block ≠ _; rw [add_block]; exact hn461_1) | exact hn461_1) (.int .i64 ((rd_T65 l2 x68_3).f1))).trans hx461_0; replace hx461_1 := (cell_far (p := ⟨gb460, 1, none⟩) (by first | (rw [add_block]; exact hn461_1) | (show (Addr.add _ _).block ≠ _; rw [add_block]; exact hn461_1) | exact hn461_1) (.int .i64 ((rd_T65 l2 x68_3).f1))).trans hx461_1; replace hx461_2 := (cell_far (p := ⟨gb460, 1, none⟩) (by first | (rw [add_block]; exact hn461_1) | (show (Addr.add _ _).block ≠ _; rw [add_block]; exact hn461_1) | exact hn461_1) (.int .i64 ((rd_T65 l2 x68_3).f1))).trans hx461_2; replace hx461_3 := (cell_far (p := ⟨gb460, 1, none⟩) (by first | (rw [add_block]; exact hn461_1) | (show (Addr.add _ _).block ≠ _; rw [add_block]; exact hn461_1) | exact hn461_1) (.int .i64 ((rd_T65 l2 x68_3).f1))).trans hx461_3; replace hx461_4 := (cell_far (p := ⟨gb460, 1, none⟩) (by first | (rw [add_block]; exact hn461_1) | (show (Addr.add _ _).block ≠ _; rw [add_block]; exact hn461_1) | exact hn461_1) (.int .i64 ((rd_T65 l2 x68_3).f1))).trans hx461_4; replace hx461_5 := (cell_far (p := ⟨gb460, 1, none⟩) (by first | (rw [add_block]; exact hn461_1) | (show (Addr.add _ _).block ≠ _; rw [add_block]; exact hn461_1) | exact hn461_1) (.int .i64 ((rd_T65 l2 x68_3).f1))).trans hx461_5; clear hn461_0; clear hn461_1; replace p461 := eq_true p461; replace q461 := eq_true q461) | ((with_reducible refine gate_dst (N := 13) rfl ?_); (try (refine gate_guard (by rfl) ?_; dsimp only)); refine sqx 13 #[.bool false, .slice none 0 0, .int .i64 0, .int .i64 0, .int .i64 0, .int .i64 0] 63 ?_; intro gb462 hg w70 hbox hb; have n0_ := sqbb BK454 hb; have n1_ := Aside0.mk (blk_below (g := gb460) (o := .cells #[.int .i64 ((rd_T65 l2 x68_3).f0), .int .i64 ((rd_T65 l2 x68_3).f1)] 65 (0, 0)) (by refine sqt ?_; refine blk_put (cs := #[.int .i64 ((rd_T65 l2 x68_3).f0), .int .i64 0]) ?_ 1 _ rfl; refine sqt ?_; refine blk_put (cs := #[.int .i64 0, .int .i64 0]) ?_ 0 _ rfl; refine sqt ?_; exact BK460.out) hb); have n2_ := sqs HB hb; have n3_ := Aside0.mk (hbox); have n4_ := sqg HB hg; have n5_ := sqg HB hg; have n6_ := Aside0.mk ((by rw [hg]; exact Nat.ne_of_lt (blk_lt (g := gb454) (o := .cells #[.bool a0_0, .slice A0_1 l0_1.length c0_1, .slice (some ad461) l0_2.length c0_2, .slice A0_3 l0_3.length c0_3, .int .i64 a0_4, .slice A0_5 l0_5.length c0_5] 39 (0, 0)) (sqT BK454)) : gb454 ≠ gb462)); have n7_ := Aside0.mk ((by rw [hg]; exact Nat.ne_of_gt (blk_lt (g := gb454) (o := .cells #[.bool a0_0, .slice A0_1 l0_1.length c0_1, .slice (some ad461) l0_2.length c0_2, .slice A0_3 l0_3.length c0_3, .int .i64 a0_4, .slice A0_5 l0_5.length c0_5] 39 (0, 0)) (sqT BK454)) : gb462 ≠ gb454)); have n8_ := Aside0.mk ((by rw [hg]; exact Nat.ne_of_lt (blk_lt (g := gb460) (o := .cells #[.int .i64 ((rd_T65 l2 x68_3).f0), .int .i64 ((rd_T65 l2 x68_3).f1)] 65 (0, 0)) (by refine sqt ?_; refine blk_put (cs := #[.int .i64 ((rd_T65 l2 x68_3).f0), .int .i64 0]) ?_ 1 _ rfl; refine sqt ?_; refine blk_put (cs := #[.int .i64 0, .int .i64 0]) ?_ 0 _ rfl; refine sqt ?_; exact BK460.out)) : gb460 ≠ gb462)); have n9_ := Aside0.mk ((by rw [hg]; exact Nat.ne_of_gt (blk_lt (g := gb460) (o := .cells #[.int .i64 ((rd_T65 l2 x68_3).f0), .int .i64 ((rd_T65 l2 x68_3).f1)] 65 (0, 0)) (by refine sqt ?_; refine blk_put (cs := #[.int .i64 ((rd_T65 l2 x68_3).f0), .int .i64 0]) ?_ 1 _ rfl; refine sqt ?_; refine blk_put (cs := #[.int .i64 0, .int .i64 0]) ?_ 0 _ rfl; refine sqt ?_; exact BK460.out)) : gb462 ≠ gb460)); clear BK454; clear BK460; clear HB; have BK454 := n0_; have BK460 := n1_; have HB := n2_; have BK462 := n3_; have GW462 := n4_; have GE462 := n5_; have NB454_462 := n6_; have NB462_454 := n7_; have NB460_462 := n8_; have NB462_460 := n9_; clear n0_ n1_ n2_ n3_ n4_ n5_ n6_ n7_ n8_ n9_; clear hb hbox hg; have hnb71 := NB462_454.out; have hnc71 := NB454_462.out; have hnb72 := NB462_460.out; have hnc72 := NB460_462.out; obtain ⟨hcz73_0, hcz73_1, hcz73_2, hcz73_3, hcz73_4, hcz73_5, hfz73_0, hfz73_1, hfz73_2, hfz73_3, hfz73_4, hfz73_5⟩ := sqc6 BK462; obtain ⟨hcz74_0, hcz74_1, hfz74_0, hfz74_1⟩ := sqc2 BK460) | ((with_reducible refine gate_callee (f := 32) rfl ?_); refine sqL (some 88) Try.func32 #[.slice A461_1 ((rd_T63 l0_2 x68_3).f1).length c461_1, .int .i64 ((rd_T65 l2 x68_3).f0)] ?_; (with_reducible refine (impl_absHasArray.calls k3 _ _ ((rd_T63 l0_2 x68_3).f1) ((rd_T65 l2 x68_3).f0) true _ ?side1 ?side2 A62.out).mono ?_); (case side1 => exact Kd.C_below HR461_1.out (sqB HB)); (case side2 => exact HC461_1.out); rintro e w' ⟨rfl, ⟨nd, rfl⟩⟩; refine ⟨_, rfl, ?_⟩) | (go_at_call 31; (with_reducible refine (impl_ValHas.calls k3 ((rd_T63 l0_2 x68_3).f2.f0) ((rd_T63 l0_2 x68_3).f2.f1) ((rd_T63 l0_2 x68_3).f2.f2) ((rd_T63 l0_2 x68_3).f2.f3) ((rd_T65 l2 x68_3).f1) true _ A64.out).mono ?_); rintro e w75 ⟨rfl, hb⟩; have n0_ := sqbb BK454 hb; have n1_ := sqbb BK460 hb; have n2_ := Aside0.mk (blk_below (g := gb462) (o := .cells #[.bool ((rd_T63 l0_2 x68_3).f0), .slice A461_1 ((rd_T63 l0_2 x68_3).f1).length c461_1, .int .i64 ((rd_T63 l0_2 x68_3).f2.f0), .int .i64 ((rd_T63 l0_2 x68_3).f2.f1), .int .i64 ((rd_T63 l0_2 x68_3).f2.f2), .int .i64 ((rd_T63 l0_2 x68_3).f2.f3)] 63 (0, 0)) (by refine sqt ?_; refine blk_put (cs := #[.bool ((rd_T63 l0_2 x68_3).f0), .slice A461_1 ((rd_T63 l0_2 x68_3).f1).length c461_1, .int .i64 ((rd_T63 l0_2 x68_3).f2.f0), .int .i64 ((rd_T63 l0_2 x68_3).f2.f1), .int .i64 ((rd_T63 l0_2 x68_3).f2.f2), .int .i64 0]) ?_ 5 _ rfl; refine sqt ?_; refine blk_put (cs := #[.bool ((rd_T63 l0_2 x68_3).f0), .slice A461_1 ((rd_T63 l0_2 x68_3).f1).length c461_1, .int .i64 ((rd_T63 l0_2 x68_3).f2.f0), .int .i64 ((rd_T63 l0_2 x68_3).f2.f1), .int .i64 0, .int .i64 0]) ?_ 4 _ rfl; refine sqt ?_; refine blk_put (cs := #[.bool ((rd_T63 l0_2 x68_3).f0), .slice A461_1 ((rd_T63 l0_2 x68_3).f1).length c461_1, .int .i64 ((rd_T63 l0_2 x68_3).f2.f0), .int .i64 0, .int .i64 0, .int .i64 0]) ?_ 3 _ rfl; refine sqt ?_; refine blk_put (cs := #[.bool ((rd_T63 l0_2 x68_3).f0), .slice A461_1 ((rd_T63 l0_2 x68_3).f1).length c461_1, .int .i64 0, .int .i64 0, .int .i64 0, .int .i64 0]) ?_ 2 _ rfl; refine sqt ?_; refine blk_put (cs := #[.bool ((rd_T63 l0_2 x68_3).f0), .slice none 0 0, .int .i64 0, .int .i64 0, .int .i64 0, .int .i64 0]) ?_ 1 _ rfl; refine sqt ?_; refine blk_put (cs := #[.bool false, .slice none 0 0, .int .i64 0, .int .i64 0, .int .i64 0, .int .i64 0]) ?_ 0 _ rfl; refine sqt ?_; exact BK462.out) hb); have n3_ := sqs HB hb; clear BK454; clear BK460; clear BK462; clear HB; have BK454 := n0_; have BK460 := n1_; have BK462 := n2_; have HB := n3_; clear n0_ n1_ n2_ n3_; (try clear hb)))
       go_roundg k3
       case measure => have := HJ4.out; have := HK2.out; have := HK3.out; omega
       case rel => exact ⟨(wrap64 (x68_3 + 1)), (by first | rfl | (simp; done) | (simp [*]; done)), H', ⟨by have := HJ4.out; have := HK2.out; have := HK3.out; omega⟩, sqk BK454, sqh HB⟩

end Go.Proofs.Ytnmgckdgmplddaa.PFnExactAbsHas
