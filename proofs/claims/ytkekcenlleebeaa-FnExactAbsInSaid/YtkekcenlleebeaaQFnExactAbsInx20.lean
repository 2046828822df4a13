/- Functions of the program as plain Lean functions, and that calls of them come to what these tell. Conditions: those in each law. -/
import Derived.Test.YtkekcenlleebeaaSq
import Derived.Test.YtkekcenlleebeaaDFnExactAbsIn
import Derived.Test.YtkekcenlleebeaaQFnExactAbsInx0
import Derived.Test.YtkekcenlleebeaaQFnExactAbsInx15
import Derived.Test.YtkekcenlleebeaaQFnExactAbsInx18
import Derived.Test.YtkekcenlleebeaaQFnExactAbsInx19
namespace Go.Proofs.Ytkekcenlleebeaa.PFnExactAbsIn
open Go.RowKit Go.Proofs.Ytkekcenlleebeaa.Sq Go.Proofs.YtkekcenlleebeaaW.PrintWords Go.Proofs.YtkekcenlleebeaaW.PrintLast Go.Proofs.YtkekcenlleebeaaW.PrintMore
attribute [local go_sem] max2_int min2_int max_two min_two max_three min_three max_four min_four   -- for this text's walks alone
set_option linter.unusedVariables false
set_option linter.unusedSimpArgs false

/-! ### spec_AbsIn: function 69 -/
def spec_AbsIn.T10 : Bool × List (List Nat × List Nat) := (true, [([], []), ([0], [0]), ([], []), ([1, 2], [1, 2]), ([3], [3]), ([], []), ([5], [5]), ([], []), ([6, 7], [6, 7]), ([8], [8]), ([4, 9], [4, 9]), ([10], [10])])
def spec_AbsIn.B10 : List Nat := [0, 1, 0, 7, 15, 0, 32, 0, 224, 480, 1023, 2047]
theorem spec_AbsIn.tab10 : rtab .any (opsOf Try.f69 10) = spec_AbsIn.T10 := by kernel_rfl
theorem spec_AbsIn.bits10 : waitsOk spec_AbsIn.T10.2 spec_AbsIn.B10 = true := by kernel_rfl
set_option maxHeartbeats 8000000 in
set_option maxRecDepth 100000 in
theorem spec_AbsIn.calls (k : Nat) (a0_0 : Bool) (A0_1 : Option Addr) (c0_1 : Nat) (l0_1 : List (S30)) (A0_2 : Option Addr) (c0_2 : Nat) (l0_2 : List (S132)) (A0_3 : Option Addr) (c0_3 : Nat) (l0_3 : List (S30)) (a0_4 : Int) (A0_5 : Option Addr) (c0_5 : Nat) (l0_5 : List Int) (a1_0 : Bool) (A1_1 : Option Addr) (c1_1 : Nat) (l1_1 : List (S30)) (A1_2 : Option Addr) (c1_2 : Nat) (l1_2 : List (S132)) (A1_3 : Option Addr) (c1_3 : Nat) (l1_3 : List (S30)) (a1_4 : Int) (A1_5 : Option Addr) (c1_5 : Nat) (l1_5 : List Int) (r : Bool) (w : World) (hr0_1 : Kd.C k30 w A0_1 l0_1.length l0_1) (hc0_1 : l0_1.length ≤ c0_1) (hr0_2 : Kd.C k132 w A0_2 l0_2.length l0_2) (hc0_2 : l0_2.length ≤ c0_2) (hr0_3 : Kd.C k30 w A0_3 l0_3.length l0_3) (hc0_3 : l0_3.length ≤ c0_3) (hr0_5 : Kd.C (Kd.int .i64) w A0_5 l0_5.length l0_5) (hc0_5 : l0_5.length ≤ c0_5) (hr1_1 : Kd.C k30 w A1_1 l1_1.length l1_1) (hc1_1 : l1_1.length ≤ c1_1) (hr1_2 : Kd.C k132 w A1_2 l1_2.length l1_2) (hc1_2 : l1_2.length ≤ c1_2) (hr1_3 : Kd.C k30 w A1_3 l1_3.length l1_3) (hc1_3 : l1_3.length ≤ c1_3) (hr1_5 : Kd.C (Kd.int .i64) w A1_5 l1_5.length l1_5) (hc1_5 : l1_5.length ≤ c1_5) (h : spec_AbsIn.f k a0_0 l0_1 l0_2 l0_3 a0_4 l0_5 a1_0 l1_1 l1_2 l1_3 a1_4 l1_5 = some r) :
  Calls Try.prog 69 #[.agg #[.bool a0_0, .slice A0_1 l0_1.length c0_1, .slice A0_2 l0_2.length c0_2, .slice A0_3 l0_3.length c0_3, .int .i64 a0_4, .slice A0_5 l0_5.length c0_5], .agg #[.bool a1_0, .slice A1_1 l1_1.length c1_1, .slice A1_2 l1_2.length c1_2, .slice A1_3 l1_3.length c1_3, .int .i64 a1_4, .slice A1_5 l1_5.length c1_5]] w fun e w' => e = .returned (.bool r) ∧ Below w.heap.size w w' := by
 have hu78 := Try.underlying78
 have hu132 := Try.underlying132
 have hu41 := Try.underlying41
 have HR0_1 := Aside0.mk hr0_1
 have HC0_1 := Aside0.mk hc0_1
 clear hr0_1 hc0_1
 have HR0_2 := Aside0.mk hr0_2
 have HC0_2 := Aside0.mk hc0_2
 clear hr0_2 hc0_2
 have HR0_3 := Aside0.mk hr0_3
 have HC0_3 := Aside0.mk hc0_3
 clear hr0_3 hc0_3
 have HR0_5 := Aside0.mk hr0_5
 have HC0_5 := Aside0.mk hc0_5
 clear hr0_5 hc0_5
 have HR1_1 := Aside0.mk hr1_1
 have HC1_1 := Aside0.mk hc1_1
 clear hr1_1 hc1_1
 have HR1_2 := Aside0.mk hr1_2
 have HC1_2 := Aside0.mk hc1_2
 clear hr1_2 hc1_2
 have HR1_3 := Aside0.mk hr1_3
 have HC1_3 := Aside0.mk hc1_3
 clear hr1_3 hc1_3
 have HR1_5 := Aside0.mk hr1_5
 have HC1_5 := Aside0.mk hc1_5
 clear hr1_5 hc1_5
 have HB := Aside0.mk (Below.refl w.heap.size w)
 have H : ((spec_AbsOk.f k a0_0 l0_1 l0_2 l0_3 a0_4 l0_5).bind fun t349 => (if t349 = true then ((spec_AbsOk.f k a1_0 l1_1 l1_2 l1_3 a1_4 l1_5).bind fun t350 => (spec_AbsIn.j0 k (!t350) a0_0 l0_1 l0_2 l0_3 a0_4 l0_5 a1_0 l1_1 l1_2 l1_3 a1_4 l1_5)) else (spec_AbsIn.j0 k true a0_0 l0_1 l0_2 l0_3 a0_4 l0_5 a1_0 l1_1 l1_2 l1_3 a1_4 l1_5))) = some r := h
 clear h
 have HC3 := Aside0.mk H
 clear H
 go_enter Try.func69, Try.ntmps69
 go_upto_region 1 with (first | ((with_reducible refine gate_dst (N := 2) rfl ?_); refine sqx 2 #[.bool a0_0, .slice A0_1 l0_1.length c0_1, .slice A0_2 l0_2.length c0_2, .slice A0_3 l0_3.length c0_3, .int .i64 a0_4, .slice A0_5 l0_5.length c0_5] 78 ?_; intro gb347 hg w4 hbox hb; have BK347 := Aside0.mk hbox; have GW347 := sqg HB hg; have GE347 := sqg HB hg; replace HB := sqs HB hb; clear hb hbox hg) | ((with_reducible refine gate_dst (N := 3) rfl ?_); refine sqx 3 #[.bool a1_0, .slice A1_1 l1_1.length c1_1, .slice A1_2 l1_2.length c1_2, .slice A1_3 l1_3.length c1_3, .int .i64 a1_4, .slice A1_5 l1_5.length c1_5] 78 ?_; intro gb348 hg w5 hbox hb; have BK348 := Aside0.mk hbox; have GW348 := sqg HB hg; have GE348 := sqg HB hg; have NB347_348 := sqn BK347 hg; have NB348_347 := sqm BK347 hg; replace BK347 := sqb BK347 hb; replace HB := sqs HB hb; clear hb hbox hg))
 (try simp only [Act.put, List.setIfInBounds_toArray, List.set_cons_zero, List.set_cons_succ])
 go_cut [13] (fun v13 wc => ∃ (kq : Nat) (x13_2 : Bool), v13 = .bool x13_2 ∧ Aside0 (spec_AbsIn.j0 kq x13_2 a0_0 l0_1 l0_2 l0_3 a0_4 l0_5 a1_0 l1_1 l1_2 l1_3 a1_4 l1_5 = some r) ∧ Aside0 (kq ≤ k) ∧ Aside0 (wc.heap[gb347]? = some (.cells #[.bool a0_0, (.slice A0_1 l0_1.length c0_1), (.slice A0_2 l0_2.length c0_2), (.slice A0_3 l0_3.length c0_3), .int .i64 a0_4, (.slice A0_5 l0_5.length c0_5)] 78 (0, 0))) ∧ Aside0 (wc.heap[gb348]? = some (.cells #[.bool a1_0, (.slice A1_1 l1_1.length c1_1), (.slice A1_2 l1_2.length c1_2), (.slice A1_3 l1_3.length c1_3), .int .i64 a1_4, (.slice A1_5 l1_5.length c1_5)] 78 (0, 0))) ∧ Aside0 (Below w.heap.size w wc))
 case first =>
  have H := HC3.out
  clear HC3
  replace H := sqbi H
  obtain ⟨t349, A6, H⟩ := H
  replace H : (if t349 = true then ((spec_AbsOk.f k a1_0 l1_1 l1_2 l1_3 a1_4 l1_5).bind fun t350 => (spec_AbsIn.j0 k (!t350) a0_0 l0_1 l0_2 l0_3 a0_4 l0_5 a1_0 l1_1 l1_2 l1_3 a1_4 l1_5)) else (spec_AbsIn.j0 k true a0_0 l0_1 l0_2 l0_3 a0_4 l0_5 a1_0 l1_1 l1_2 l1_3 a1_4 l1_5)) = some r := H
  rcases sqI (t349 = true) with c7 | c7
  ·replace c7 := Bool.eq_false_iff.mpr c7
   subst c7
   have H1 : (spec_AbsIn.j0 k true a0_0 l0_1 l0_2 l0_3 a0_4 l0_5 a1_0 l1_1 l1_2 l1_3 a1_4 l1_5) = some r := by rw [if_neg (show ¬ (false = true) by decide)] at H; exact H
   clear H
   have H := H1
   clear H1
   have H' := Aside0.mk H
   clear H
   have hnb14 := NB347_348.out
   have hnc14 := NB348_347.out
   obtain ⟨hcz15_0, hcz15_1, hcz15_2, hcz15_3, hcz15_4, hcz15_5, hfz15_0, hfz15_1, hfz15_2, hfz15_3, hfz15_4, hfz15_5⟩ := sqc6 BK347
   go_wp2_with (first | ((with_reducible refine gate_callee (f := 58) rfl ?_); refine sqL (some 7) Try.func58 #[.agg #[.bool a0_0, .slice A0_1 l0_1.length c0_1, .slice A0_2 l0_2.length c0_2, .slice A0_3 l0_3.length c0_3, .int .i64 a0_4, .slice A0_5 l0_5.length c0_5]] ?_; (with_reducible refine (spec_AbsOk.calls k a0_0 _ _ l0_1 _ _ l0_2 _ _ l0_3 a0_4 _ _ l0_5 false _ ?side1 ?side2 ?side3 ?side4 ?side5 ?side6 ?side7 ?side8 A6.out).mono ?_); (case side1 => exact sqC (Kd.C_below HR0_1.out HB.out)); (case side2 => exact HC0_1.out); (case side3 => exact sqC (Kd.C_below HR0_2.out HB.out)); (case side4 => exact HC0_2.out); (case side5 => exact sqC (Kd.C_below HR0_3.out HB.out)); (case side6 => exact HC0_3.out); (case side7 => exact sqC (Kd.C_below HR0_5.out HB.out)); (case side8 => exact HC0_5.out); rintro e w16 ⟨rfl, hb⟩; refine ⟨_, rfl, ?_⟩; refine sqM2 BK347 BK348 hb ?_; clear BK347 BK348; intro BK347 BK348; replace HB := sqs HB hb; (try clear hb)))
   go_meet
   case rel => exact ⟨_, (true), (by first | rfl | (simp; done) | (simp [*]; done)), H', ⟨by first | omega | exact Nat.le_refl _⟩, sqk BK347, sqk BK348, sqh HB⟩
  subst c7
  have H1 : ((spec_AbsOk.f k a1_0 l1_1 l1_2 l1_3 a1_4 l1_5).bind fun t350 => (spec_AbsIn.j0 k (!t350) a0_0 l0_1 l0_2 l0_3 a0_4 l0_5 a1_0 l1_1 l1_2 l1_3 a1_4 l1_5)) = some r := by rw [if_pos rfl] at H; exact H
  clear H
  have H := H1
  clear H1
  replace H := sqbi H
  obtain ⟨t350, A8, H⟩ := H
  replace H : (spec_AbsIn.j0 k (!t350) a0_0 l0_1 l0_2 l0_3 a0_4 l0_5 a1_0 l1_1 l1_2 l1_3 a1_4 l1_5) = some r := H
  have H' := Aside0.mk H
  clear H
  have hnb9 := NB347_348.out
  have hnc9 := NB348_347.out
  obtain ⟨hcz10_0, hcz10_1, hcz10_2, hcz10_3, hcz10_4, hcz10_5, hfz10_0, hfz10_1, hfz10_2, hfz10_3, hfz10_4, hfz10_5⟩ := sqc6 BK347
  go_wp2_with (first | ((with_reducible refine gate_callee (f := 58) rfl ?_); refine sqL (some 7) Try.func58 #[.agg #[.bool a0_0, .slice A0_1 l0_1.length c0_1, .slice A0_2 l0_2.length c0_2, .slice A0_3 l0_3.length c0_3, .int .i64 a0_4, .slice A0_5 l0_5.length c0_5]] ?_; (with_reducible refine (spec_AbsOk.calls k a0_0 _ _ l0_1 _ _ l0_2 _ _ l0_3 a0_4 _ _ l0_5 true _ ?side1 ?side2 ?side3 ?side4 ?side5 ?side6 ?side7 ?side8 A6.out).mono ?_); (case side1 => exact sqC (Kd.C_below HR0_1.out HB.out)); (case side2 => exact HC0_1.out); (case side3 => exact sqC (Kd.C_below HR0_2.out HB.out)); (case side4 => exact HC0_2.out); (case side5 => exact sqC (Kd.C_below HR0_3.out HB.out)); (case side6 => exact HC0_3.out); (case side7 => exact sqC (Kd.C_below HR0_5.out HB.out)); (case side8 => exact HC0_5.out); rintro e w11 ⟨rfl, hb⟩; refine ⟨_, rfl, ?_⟩; refine sqM2 BK347 BK348 hb ?_; clear BK347 BK348; intro BK347 BK348; replace HB := sqs HB hb; (try clear hb); obtain ⟨hcz12_0, hcz12_1, hcz12_2, hcz12_3, hcz12_4, hcz12_5, hfz12_0, hfz12_1, hfz12_2, hfz12_3, hfz12_4, hfz12_5⟩ := sqc6 BK348) | (go_at_call 58; (with_reducible refine (spec_AbsOk.calls k a1_0 _ _ l1_1 _ _ l1_2 _ _ l1_3 a1_4 _ _ l1_5 t350 _ ?side1 ?side2 ?side3 ?side4 ?side5 ?side6 ?side7 ?side8 A8.out).mono ?_); (case side1 => exact sqC (Kd.C_below HR1_1.out HB.out)); (case side2 => exact HC1_1.out); (case side3 => exact sqC (Kd.C_below HR1_2.out HB.out)); (case side4 => exact HC1_2.out); (case side5 => exact sqC (Kd.C_below HR1_3.out HB.out)); (case side6 => exact HC1_3.out); (case side7 => exact sqC (Kd.C_below HR1_5.out HB.out)); (case side8 => exact HC1_5.out); rintro e w13 ⟨rfl, hb⟩; refine sqM2 BK347 BK348 hb ?_; clear BK347 BK348; intro BK347 BK348; replace HB := sqs HB hb; (try clear hb)))
  go_meet
  case rel => exact ⟨_, (!t350), (by first | rfl | (simp; done) | (simp [*]; done)), H', ⟨by first | omega | exact Nat.le_refl _⟩, sqk BK347, sqk BK348, sqh HB⟩
 case rest =>
  clear HC3
  obtain ⟨kq, x13_2, rfl, HA, HJ2, BK347, BK348, HB⟩ := hcut
  cases kq with
  | zero => exact absurd HA.out (by simp [spec_AbsIn.j0])
  | succ kj2 =>
   have H := HA.out
   clear HA
   simp only [spec_AbsIn.j0] at H
   by_cases c17 : x13_2 = true
   ·subst c17
    have H1 : (some false) = some r := by rw [if_pos rfl] at H; exact H
    clear H
    have H := H1
    clear H1
    obtain rfl := Option.some.inj H
    go_wp2
    go_ret
    exact sqe HB
   replace c17 := Bool.eq_false_iff.mpr c17
   subst c17
   have H1 : (if a0_0 = true then (if a1_0 = true then ((spec_l12Like.f a0_0 l0_1 l0_2 l0_3 a0_4 l0_5 a1_0 l1_1 l1_2 l1_3 a1_4 l1_5).bind fun t351 => (spec_AbsIn.j1 kj2 (!t351) a0_0 l0_1 l0_2 l0_3 a0_4 l0_5 a1_0 l1_1 l1_2 l1_3 a1_4 l1_5)) else (spec_AbsIn.j1 kj2 true a0_0 l0_1 l0_2 l0_3 a0_4 l0_5 a1_0 l1_1 l1_2 l1_3 a1_4 l1_5)) else (some true)) = some r := by rw [if_neg (show ¬ (false = true) by decide)] at H; exact H
   clear H
   have H := H1
   clear H1
   rcases sqI (a0_0 = true) with c18 | c18
   ·replace c18 := Bool.eq_false_iff.mpr c18
    subst c18
    have H1 : (some true) = some r := by rw [if_neg (show ¬ (false = true) by decide)] at H; exact H
    clear H
    have H := H1
    clear H1
    obtain rfl := Option.some.inj H
    have hnb70 := NB347_348.out
    have hnc70 := NB348_347.out
    obtain ⟨hcz71_0, hcz71_1, hcz71_2, hcz71_3, hcz71_4, hcz71_5, hfz71_0, hfz71_1, hfz71_2, hfz71_3, hfz71_4, hfz71_5⟩ := sqc6 BK347
    go_wp2
    go_ret
    exact sqe HB
   subst c18
   have H1 : (if a1_0 = true then ((spec_l12Like.f true l0_1 l0_2 l0_3 a0_4 l0_5 a1_0 l1_1 l1_2 l1_3 a1_4 l1_5).bind fun t351 => (spec_AbsIn.j1 kj2 (!t351) true l0_1 l0_2 l0_3 a0_4 l0_5 a1_0 l1_1 l1_2 l1_3 a1_4 l1_5)) else (spec_AbsIn.j1 kj2 true true l0_1 l0_2 l0_3 a0_4 l0_5 a1_0 l1_1 l1_2 l1_3 a1_4 l1_5)) = some r := by rw [if_pos rfl] at H; exact H
   clear H
   have H := H1
   clear H1
   have HC19 := Aside0.mk H
   clear H
   have hnb20 := NB347_348.out
   have hnc20 := NB348_347.out
   obtain ⟨hcz21_0, hcz21_1, hcz21_2, hcz21_3, hcz21_4, hcz21_5, hfz21_0, hfz21_1, hfz21_2, hfz21_3, hfz21_4, hfz21_5⟩ := sqc6 BK347
   go_upto_region 5 with (fail)
   go_cut [25] (fun v25 wc => ∃ (kq : Nat) (x25_18 : Bool), v25 = .bool x25_18 ∧ Aside0 (spec_AbsIn.j1 kq x25_18 true l0_1 l0_2 l0_3 a0_4 l0_5 a1_0 l1_1 l1_2 l1_3 a1_4 l1_5 = some r) ∧ Aside0 (kq ≤ kj2) ∧ Aside0 (wc.heap[gb347]? = some (.cells #[.bool true, (.slice A0_1 l0_1.length c0_1), (.slice A0_2 l0_2.length c0_2), (.slice A0_3 l0_3.length c0_3), .int .i64 a0_4, (.slice A0_5 l0_5.length c0_5)] 78 (0, 0))) ∧ Aside0 (wc.heap[gb348]? = some (.cells #[.bool a1_0, (.slice A1_1 l1_1.length c1_1), (.slice A1_2 l1_2.length c1_2), (.slice A1_3 l1_3.length c1_3), .int .i64 a1_4, (.slice A1_5 l1_5.length c1_5)] 78 (0, 0))) ∧ Aside0 (Below w.heap.size w wc))
   case first =>
    have H := HC19.out
    clear HC19
    rcases sqI (a1_0 = true) with c22 | c22
    ·replace c22 := Bool.eq_false_iff.mpr c22
     subst c22
     have H1 : (spec_AbsIn.j1 kj2 true true l0_1 l0_2 l0_3 a0_4 l0_5 false l1_1 l1_2 l1_3 a1_4 l1_5) = some r := by rw [if_neg (show ¬ (false = true) by decide)] at H; exact H
     clear H
     have H := H1
     clear H1
     have H' := Aside0.mk H
     clear H
     have hnb28 := NB348_347.out
     have hnc28 := NB347_348.out
     obtain ⟨hcz29_0, hcz29_1, hcz29_2, hcz29_3, hcz29_4, hcz29_5, hfz29_0, hfz29_1, hfz29_2, hfz29_3, hfz29_4, hfz29_5⟩ := sqc6 BK348
     go_wp2
     go_meet
     case rel => exact ⟨_, (true), (by first | rfl | (simp; done) | (simp [*]; done)), H', ⟨by have := HJ2.out; first | omega | exact Nat.le_refl _⟩, sqk BK347, sqk BK348, sqh HB⟩
    subst c22
    have H1 : ((spec_l12Like.f true l0_1 l0_2 l0_3 a0_4 l0_5 true l1_1 l1_2 l1_3 a1_4 l1_5).bind fun t351 => (spec_AbsIn.j1 kj2 (!t351) true l0_1 l0_2 l0_3 a0_4 l0_5 true l1_1 l1_2 l1_3 a1_4 l1_5)) = some r := by rw [if_pos rfl] at H; exact H
    clear H
    have H := H1
    clear H1
    replace H := sqbi H
    obtain ⟨t351, A23, H⟩ := H
    replace H : (spec_AbsIn.j1 kj2 (!t351) true l0_1 l0_2 l0_3 a0_4 l0_5 true l1_1 l1_2 l1_3 a1_4 l1_5) = some r := H
    have H' := Aside0.mk H
    clear H
    have hnb24 := NB348_347.out
    have hnc24 := NB347_348.out
    obtain ⟨hcz25_0, hcz25_1, hcz25_2, hcz25_3, hcz25_4, hcz25_5, hfz25_0, hfz25_1, hfz25_2, hfz25_3, hfz25_4, hfz25_5⟩ := sqc6 BK348
    obtain ⟨hcz26_0, hcz26_1, hcz26_2, hcz26_3, hcz26_4, hcz26_5, hfz26_0, hfz26_1, hfz26_2, hfz26_3, hfz26_4, hfz26_5⟩ := sqc6 BK347
    go_wp2_with (first | (go_at_call 159; (with_reducible refine (spec_l12Like.calls true _ _ l0_1 _ _ l0_2 _ _ l0_3 a0_4 _ _ l0_5 true _ _ l1_1 _ _ l1_2 _ _ l1_3 a1_4 _ _ l1_5 t351 _ ?side1 ?side2 ?side3 ?side4 ?side5 ?side6 ?side7 ?side8 ?side9 ?side10 ?side11 ?side12 ?side13 ?side14 ?side15 ?side16 A23.out).mono ?_); (case side1 => exact sqC (Kd.C_below HR0_1.out HB.out)); (case side2 => exact HC0_1.out); (case side3 => exact sqC (Kd.C_below HR0_2.out HB.out)); (case side4 => exact HC0_2.out); (case side5 => exact sqC (Kd.C_below HR0_3.out HB.out)); (case side6 => exact HC0_3.out); (case side7 => exact sqC (Kd.C_below HR0_5.out HB.out)); (case side8 => exact HC0_5.out); (case side9 => exact sqC (Kd.C_below HR1_1.out HB.out)); (case side10 => exact HC1_1.out); (case side11 => exact sqC (Kd.C_below HR1_2.out HB.out)); (case side12 => exact HC1_2.out); (case side13 => exact sqC (Kd.C_below HR1_3.out HB.out)); (case side14 => exact HC1_3.out); (case side15 => exact sqC (Kd.C_below HR1_5.out HB.out)); (case side16 => exact HC1_5.out); rintro e w27 ⟨rfl, hb⟩; refine sqM2 BK347 BK348 hb ?_; clear BK347 BK348; intro BK347 BK348; replace HB := sqs HB hb; (try clear hb)))
    go_meet
    case rel => exact ⟨_, (!t351), (by first | rfl | (simp; done) | (simp [*]; done)), H', ⟨by have := HJ2.out; first | omega | exact Nat.le_refl _⟩, sqk BK347, sqk BK348, sqh HB⟩
   case rest =>
    clear HC19
    obtain ⟨kq, x25_18, rfl, HA, HJ18, BK347, BK348, HB⟩ := hcut
    cases kq with
    | zero => exact absurd HA.out (by simp [spec_AbsIn.j1])
    | succ kj18 =>
     have H := HA.out
     clear HA
     simp only [spec_AbsIn.j1] at H
     by_cases c30 : x25_18 = true
     ·subst c30
      have H1 : (some false) = some r := by rw [if_pos rfl] at H; exact H
      clear H
      have H := H1
      clear H1
      obtain rfl := Option.some.inj H
      go_wp2
      go_ret
      exact sqe HB
     replace c30 := Bool.eq_false_iff.mpr c30
     subst c30
     have H1 : (spec_AbsIn.l0 kj18 0 true l0_1 l0_2 l0_3 a0_4 l0_5 a1_0 l1_1 l1_2 l1_3 a1_4 l1_5) = some r := by rw [if_neg (show ¬ (false = true) by decide)] at H; exact H
     clear H
     have H := H1
     clear H1
     have H' := Aside0.mk H
     clear H
     go_wp2
     go_loopg [5] kj18 (fun kq v5 w' => ∃ (x5_3 : Int), v5 = .int .i64 x5_3 ∧ Aside0 (spec_AbsIn.l0 kq x5_3 true l0_1 l0_2 l0_3 a0_4 l0_5 a1_0 l1_1 l1_2 l1_3 a1_4 l1_5 = some r) ∧ Aside0 (kq ≤ kj18) ∧ Aside0 (w'.heap[gb347]? = some (.cells #[.bool true, (.slice A0_1 l0_1.length c0_1), (.slice A0_2 l0_2.length c0_2), (.slice A0_3 l0_3.length c0_3), .int .i64 a0_4, (.slice A0_5 l0_5.length c0_5)] 78 (0, 0))) ∧ Aside0 (w'.heap[gb348]? = some (.cells #[.bool a1_0, (.slice A1_1 l1_1.length c1_1), (.slice A1_2 l1_2.length c1_2), (.slice A1_3 l1_3.length c1_3), .int .i64 a1_4, (.slice A1_5 l1_5.length c1_5)] 78 (0, 0))) ∧ Aside0 (Below w.heap.size w w'))
     case atStart => exact ⟨(0), (by first | rfl | (simp; done) | (simp [*]; done)), H', ⟨Nat.le_refl _⟩, sqk BK347, sqk BK348, sqh HB⟩
     case round =>
      clear H'
      obtain ⟨x5_3, rfl, HA, HK3, BK347, BK348, HB⟩ := hrel
      cases gk with
      | zero => exact absurd HA.out (by simp [spec_AbsIn.l0])
      | succ k3 =>
       have H := HA.out
       clear HA
       simp only [spec_AbsIn.l0] at H
       replace H := sqi H
       rcases H with ⟨c31, H⟩ | ⟨c31, H⟩
       ·have c31b0 := decide_eq_false c31
        clear c31
        replace H := sqbi H
        obtain ⟨t355, A44, H⟩ := H
        replace H : (if t355 = true then ((spec_l12ValsIn.f k3 l0_3 l1_3).bind fun t356 => (if t356 = true then ((spec_GapsIn.f k3 a0_4 l0_5 a1_4 l1_5).bind fun t357 => (some t357)) else (some false))) else (some false)) = some r := H
        rcases sqI (t355 = true) with c45 | c45
        ·replace c45 := Bool.eq_false_iff.mpr c45
         subst c45
         have H1 : (some false) = some r := by rw [if_neg (show ¬ (false = true) by decide)] at H; exact H
         clear H
         have H := H1
         clear H1
         obtain rfl := Option.some.inj H
         have hnb66 := NB347_348.out
         have hnc66 := NB348_347.out
         obtain ⟨hcz67_0, hcz67_1, hcz67_2, hcz67_3, hcz67_4, hcz67_5, hfz67_0, hfz67_1, hfz67_2, hfz67_3, hfz67_4, hfz67_5⟩ := sqc6 BK347
         obtain ⟨hcz68_0, hcz68_1, hcz68_2, hcz68_3, hcz68_4, hcz68_5, hfz68_0, hfz68_1, hfz68_2, hfz68_3, hfz68_4, hfz68_5⟩ := sqc6 BK348
         go_wp2_with (first | ((with_reducible refine gate_callee (f := 161) rfl ?_); refine sqL (some 49) Try.func161 #[.slice A0_1 l0_1.length c0_1, .slice A1_1 l1_1.length c1_1] ?_; (with_reducible refine (spec_l12ValsIn.calls k3 _ _ l0_1 _ _ l1_1 false _ ?side1 ?side2 ?side3 ?side4 A44.out).mono ?_); (case side1 => exact sqC (Kd.C_below HR0_1.out HB.out)); (case side2 => exact HC0_1.out); (case side3 => exact sqC (Kd.C_below HR1_1.out HB.out)); (case side4 => exact HC1_1.out); rintro e w69 ⟨rfl, hb⟩; refine ⟨_, rfl, ?_⟩; refine sqM2 BK347 BK348 hb ?_; clear BK347 BK348; intro BK347 BK348; replace HB := sqs HB hb; (try clear hb)))
         go_ret
         exact sqe HB
        subst c45
        have H1 : ((spec_l12ValsIn.f k3 l0_3 l1_3).bind fun t356 => (if t356 = true then ((spec_GapsIn.f k3 a0_4 l0_5 a1_4 l1_5).bind fun t357 => (some t357)) else (some false))) = some r := by rw [if_pos rfl] at H; exact H
        clear H
        have H := H1
        clear H1
        replace H := sqbi H
        obtain ⟨t356, A46, H⟩ := H
        replace H : (if t356 = true then ((spec_GapsIn.f k3 a0_4 l0_5 a1_4 l1_5).bind fun t357 => (some t357)) else (some false)) = some r := H
        rcases sqI (t356 = true) with c47 | c47
        ·replace c47 := Bool.eq_false_iff.mpr c47
         subst c47
         have H1 : (some false) = some r := by rw [if_neg (show ¬ (false = true) by decide)] at H; exact H
         clear H
         have H := H1
         clear H1
         obtain rfl := Option.some.inj H
         have hnb59 := NB347_348.out
         have hnc59 := NB348_347.out
         obtain ⟨hcz60_0, hcz60_1, hcz60_2, hcz60_3, hcz60_4, hcz60_5, hfz60_0, hfz60_1, hfz60_2, hfz60_3, hfz60_4, hfz60_5⟩ := sqc6 BK347
         obtain ⟨hcz61_0, hcz61_1, hcz61_2, hcz61_3, hcz61_4, hcz61_5, hfz61_0, hfz61_1, hfz61_2, hfz61_3, hfz61_4, hfz61_5⟩ := sqc6 BK348
         go_wp2_with (first | ((with_reducible refine gate_callee (f := 161) rfl ?_); refine sqL (some 49) Try.func161 #[.slice A0_1 l0_1.length c0_1, .slice A1_1 l1_1.length c1_1] ?_; (with_reducible refine (spec_l12ValsIn.calls k3 _ _ l0_1 _ _ l1_1 true _ ?side1 ?side2 ?side3 ?side4 A44.out).mono ?_); (case side1 => exact sqC (Kd.C_below HR0_1.out HB.out)); (case side2 => exact HC0_1.out); (case side3 => exact sqC (Kd.C_below HR1_1.out HB.out)); (case side4 => exact HC1_1.out); rintro e w62 ⟨rfl, hb⟩; refine ⟨_, rfl, ?_⟩; refine sqM2 BK347 BK348 hb ?_; clear BK347 BK348; intro BK347 BK348; replace HB := sqs HB hb; (try clear hb); obtain ⟨hcz63_0, hcz63_1, hcz63_2, hcz63_3, hcz63_4, hcz63_5, hfz63_0, hfz63_1, hfz63_2, hfz63_3, hfz63_4, hfz63_5⟩ := sqc6 BK347; obtain ⟨hcz64_0, hcz64_1, hcz64_2, hcz64_3, hcz64_4, hcz64_5, hfz64_0, hfz64_1, hfz64_2, hfz64_3, hfz64_4, hfz64_5⟩ := sqc6 BK348) | (go_at_call 161; (with_reducible refine (spec_l12ValsIn.calls k3 _ _ l0_3 _ _ l1_3 false _ ?side1 ?side2 ?side3 ?side4 A46.out).mono ?_); (case side1 => exact sqC (Kd.C_below HR0_3.out HB.out)); (case side2 => exact HC0_3.out); (case side3 => exact sqC (Kd.C_below HR1_3.out HB.out)); (case side4 => exact HC1_3.out); rintro e w65 ⟨rfl, hb⟩; refine sqM2 BK347 BK348 hb ?_; clear BK347 BK348; intro BK347 BK348; replace HB := sqs HB hb; (try clear hb)))
         go_ret
         exact sqe HB
        subst c47
        have H1 : ((spec_GapsIn.f k3 a0_4 l0_5 a1_4 l1_5).bind fun t357 => (some t357)) = some r := by rw [if_pos rfl] at H; exact H
        clear H
        have H := H1
        clear H1
        replace H := sqbi H
        obtain ⟨t357, A48, H⟩ := H
        replace H : (some t357) = some r := H
        obtain rfl := Option.some.inj H
        have hnb49 := NB347_348.out
        have hnc49 := NB348_347.out
        obtain ⟨hcz50_0, hcz50_1, hcz50_2, hcz50_3, hcz50_4, hcz50_5, hfz50_0, hfz50_1, hfz50_2, hfz50_3, hfz50_4, hfz50_5⟩ := sqc6 BK347
        obtain ⟨hcz51_0, hcz51_1, hcz51_2, hcz51_3, hcz51_4, hcz51_5, hfz51_0, hfz51_1, hfz51_2, hfz51_3, hfz51_4, hfz51_5⟩ := sqc6 BK348
        go_wp2_with (first | ((with_reducible refine gate_callee (f := 161) rfl ?_); refine sqL (some 49) Try.func161 #[.slice A0_1 l0_1.length c0_1, .slice A1_1 l1_1.length c1_1] ?_; (with_reducible refine (spec_l12ValsIn.calls k3 _ _ l0_1 _ _ l1_1 true _ ?side1 ?side2 ?side3 ?side4 A44.out).mono ?_); (case side1 => exact sqC (Kd.C_below HR0_1.out HB.out)); (case side2 => exact HC0_1.out); (case side3 => exact sqC (Kd.C_below HR1_1.out HB.out)); (case side4 => exact HC1_1.out); rintro e w52 ⟨rfl, hb⟩; refine ⟨_, rfl, ?_⟩; refine sqM2 BK347 BK348 hb ?_; clear BK347 BK348; intro BK347 BK348; replace HB := sqs HB hb; (try clear hb); obtain ⟨hcz53_0, hcz53_1, hcz53_2, hcz53_3, hcz53_4, hcz53_5, hfz53_0, hfz53_1, hfz53_2, hfz53_3, hfz53_4, hfz53_5⟩ := sqc6 BK347; obtain ⟨hcz54_0, hcz54_1, hcz54_2, hcz54_3, hcz54_4, hcz54_5, hfz54_0, hfz54_1, hfz54_2, hfz54_3, hfz54_4, hfz54_5⟩ := sqc6 BK348) | (go_at_call 161; (with_reducible refine (spec_l12ValsIn.calls k3 _ _ l0_3 _ _ l1_3 true _ ?side1 ?side2 ?side3 ?side4 A46.out).mono ?_); (case side1 => exact sqC (Kd.C_below HR0_3.out HB.out)); (case side2 => exact HC0_3.out); (case side3 => exact sqC (Kd.C_below HR1_3.out HB.out)); (case side4 => exact HC1_3.out); rintro e w55 ⟨rfl, hb⟩; refine sqM2 BK347 BK348 hb ?_; clear BK347 BK348; intro BK347 BK348; replace HB := sqs HB hb; (try clear hb); obtain ⟨hcz56_0, hcz56_1, hcz56_2, hcz56_3, hcz56_4, hcz56_5, hfz56_0, hfz56_1, hfz56_2, hfz56_3, hfz56_4, hfz56_5⟩ := sqc6 BK347; obtain ⟨hcz57_0, hcz57_1, hcz57_2, hcz57_3, hcz57_4, hcz57_5, hfz57_0, hfz57_1, hfz57_2, hfz57_3, hfz57_4, hfz57_5⟩ := sqc6 BK348) | (go_at_call 162; (with_reducible refine (spec_GapsIn.calls k3 a0_4 _ _ l0_5 a1_4 _ _ l1_5 t357 _ ?side1 ?side2 ?side3 ?side4 A48.out).mono ?_); (case side1 => exact sqC (Kd.C_below HR0_5.out HB.out)); (case side2 => exact HC0_5.out); (case side3 => exact sqC (Kd.C_below HR1_5.out HB.out)); (case side4 => exact HC1_5.out); rintro e w58 ⟨rfl, hb⟩; refine sqM2 BK347 BK348 hb ?_; clear BK347 BK348; intro BK347 BK348; replace HB := sqs HB hb; (try clear hb)))
        go_ret
        exact sqe HB
       have c31b0 := decide_eq_true c31
       clear c31
       replace H := sqi H
       rcases H with ⟨c32, H⟩ | ⟨c32, H⟩
       ·exact absurd H (by simp)
       have c32b0 := decide_eq_true c32
       clear c32
       replace H := sqi H
       rcases H with ⟨c33, H⟩ | ⟨c33, H⟩
       ·exact absurd H (by simp)
       have c33b0 := decide_eq_true c33
       clear c33
       replace H := sqbi H
       obtain ⟨t354, A34, H⟩ := H
       replace H : (if t354 = true then (spec_AbsIn.l0 k3 (wrap64 (x5_3 + 1)) true l0_1 l0_2 l0_3 a0_4 l0_5 a1_0 l1_1 l1_2 l1_3 a1_4 l1_5) else (some false)) = some r := H
       rcases sqI (t354 = true) with c35 | c35
       ·replace c35 := Bool.eq_false_iff.mpr c35
        subst c35
        have H1 : (some false) = some r := by rw [if_neg (show ¬ (false = true) by decide)] at H; exact H
        clear H
        have H := H1
        clear H1
        obtain rfl := Option.some.inj H
        have hnb40 := NB347_348.out
        have hnc40 := NB348_347.out
        obtain ⟨hcz41_0, hcz41_1, hcz41_2, hcz41_3, hcz41_4, hcz41_5, hfz41_0, hfz41_1, hfz41_2, hfz41_3, hfz41_4, hfz41_5⟩ := sqc6 BK347
        try go_wp2
        replace BK347 := Aside0.mk (blk_drew BK347.out)
        replace BK348 := Aside0.mk (blk_drew BK348.out)
        replace HB := Aside0.mk (below_drew1 HB.out)
        have p352 : 0 ≤ (x5_3 : Int) := sqd
        have q352 : x5_3 < (l0_2.length : Int) := sqd
        obtain ⟨ad352, A352_1, c352_1, e352, hx352_0, hx352_1, hx352_2, hx352_3, hx352_4, hx352_5, hl352_1, hi352_1⟩ := at_T132 HR0_2.out x5_3 p352 q352
        have hw352_5 := hx352_5
        have hw352_4 := hx352_4
        have hw352_3 := hx352_3
        have hw352_2 := hx352_2
        have hw352_1 := hx352_1
        have hw352_0 := hx352_0
        cases e352
        replace hx352_0 := sqa HB hx352_0
        replace hx352_1 := sqa HB hx352_1
        replace hx352_2 := sqa HB hx352_2
        replace hx352_3 := sqa HB hx352_3
        replace hx352_4 := sqa HB hx352_4
        replace hx352_5 := sqa HB hx352_5
        have HR352_1 := Aside0.mk hi352_1
        have HC352_1 := Aside0.mk hl352_1
        clear hi352_1 hl352_1
        replace p352 := eq_true p352
        replace q352 := eq_true q352
        have p353 : 0 ≤ (x5_3 : Int) := sqd
        have q353 : x5_3 < (l1_2.length : Int) := sqd
        obtain ⟨ad353, A353_1, c353_1, e353, hx353_0, hx353_1, hx353_2, hx353_3, hx353_4, hx353_5, hl353_1, hi353_1⟩ := at_T132 HR1_2.out x5_3 p353 q353
        have hw353_5 := hx353_5
        have hw353_4 := hx353_4
        have hw353_3 := hx353_3
        have hw353_2 := hx353_2
        have hw353_1 := hx353_1
        have hw353_0 := hx353_0
        cases e353
        replace hx353_0 := sqa HB hx353_0
        replace hx353_1 := sqa HB hx353_1
        replace hx353_2 := sqa HB hx353_2
        replace hx353_3 := sqa HB hx353_3
        replace hx353_4 := sqa HB hx353_4
        replace hx353_5 := sqa HB hx353_5
        have HR353_1 := Aside0.mk hi353_1
        have HC353_1 := Aside0.mk hl353_1
        clear hi353_1 hl353_1
        replace p353 := eq_true p353
        replace q353 := eq_true q353
        refine start_ (n := 12) (S := fun w' => w'.cell? ⟨gb347, 0, none⟩ = some (.bool true) ∧ w'.cell? ⟨gb347, 1, none⟩ = some (.slice A0_1 l0_1.length c0_1) ∧ w'.cell? ⟨gb347, 2, none⟩ = some (.slice (some ad352) l0_2.length c0_2) ∧ w'.cell? ⟨gb347, 3, none⟩ = some (.slice A0_3 l0_3.length c0_3) ∧ w'.cell? ⟨gb347, 4, none⟩ = some (.int .i64 a0_4) ∧ w'.cell? ⟨gb347, 5, none⟩ = some (.slice A0_5 l0_5.length c0_5) ∧ w'.cell? ⟨gb348, 0, none⟩ = some (.bool a1_0) ∧ w'.cell? ⟨gb348, 1, none⟩ = some (.slice A1_1 l1_1.length c1_1) ∧ w'.cell? ⟨gb348, 2, none⟩ = some (.slice (some ad353) l1_2.length c1_2) ∧ w'.cell? ⟨gb348, 3, none⟩ = some (.slice A1_3 l1_3.length c1_3) ∧ w'.cell? ⟨gb348, 4, none⟩ = some (.int .i64 a1_4) ∧ w'.cell? ⟨gb348, 5, none⟩ = some (.slice A1_5 l1_5.length c1_5) ∧ w'.cell? (ad352.add ((x5_3).toNat * 6)) = some (.bool ((rd_T132 l0_2 x5_3).f0)) ∧ w'.cell? ⟨(ad352.add ((x5_3).toNat * 6)).block, (ad352.add ((x5_3).toNat * 6)).off + 1, none⟩ = some (.slice A352_1 ((rd_T132 l0_2 x5_3).f1).length c352_1) ∧ w'.cell? ⟨(ad352.add ((x5_3).toNat * 6)).block, (ad352.add ((x5_3).toNat * 6)).off + 2, none⟩ = some (.int .i64 ((rd_T132 l0_2 x5_3).f2.f0)) ∧ w'.cell? ⟨(ad352.add ((x5_3).toNat * 6)).block, (ad352.add ((x5_3).toNat * 6)).off + 3, none⟩ = some (.int .i64 ((rd_T132 l0_2 x5_3).f2.f1)) ∧ w'.cell? ⟨(ad352.add ((x5_3).toNat * 6)).block, (ad352.add ((x5_3).toNat * 6)).off + 4, none⟩ = some (.int .i64 ((rd_T132 l0_2 x5_3).f2.f2)) ∧ w'.cell? ⟨(ad352.add ((x5_3).toNat * 6)).block, (ad352.add ((x5_3).toNat * 6)).off + 5, none⟩ = some (.int .i64 ((rd_T132 l0_2 x5_3).f2.f3)) ∧ w'.cell? (ad353.add ((x5_3).toNat * 6)) = some (.bool ((rd_T132 l1_2 x5_3).f0)) ∧ w'.cell? ⟨(ad353.add ((x5_3).toNat * 6)).block, (ad353.add ((x5_3).toNat * 6)).off + 1, none⟩ = some (.slice A353_1 ((rd_T132 l1_2 x5_3).f1).length c353_1) ∧ w'.cell? ⟨(ad353.add ((x5_3).toNat * 6)).block, (ad353.add ((x5_3).toNat * 6)).off + 2, none⟩ = some (.int .i64 ((rd_T132 l1_2 x5_3).f2.f0)) ∧ w'.cell? ⟨(ad353.add ((x5_3).toNat * 6)).block, (ad353.add ((x5_3).toNat * 6)).off + 3, none⟩ = some (.int .i64 ((rd_T132 l1_2 x5_3).f2.f1)) ∧ w'.cell? ⟨(ad353.add ((x5_3).toNat * 6)).block, (ad353.add ((x5_3).toNat * 6)).off + 4, none⟩ = some (.int .i64 ((rd_T132 l1_2 x5_3).f2.f2)) ∧ w'.cell? ⟨(ad353.add ((x5_3).toNat * 6)).block, (ad353.add ((x5_3).toNat * 6)).off + 5, none⟩ = some (.int .i64 ((rd_T132 l1_2 x5_3).f2.f3))) (ds := []) #[false, false, false, false, false, false, false, false, false, false, false, false] (by kernel_rfl) rfl rfl ⟨(blk_cell BK347.out 0).trans rfl, (blk_cell BK347.out 1).trans rfl, (blk_cell BK347.out 2).trans rfl, (blk_cell BK347.out 3).trans rfl, (blk_cell BK347.out 4).trans rfl, (blk_cell BK347.out 5).trans rfl, (blk_cell BK348.out 0).trans rfl, (blk_cell BK348.out 1).trans rfl, (blk_cell BK348.out 2).trans rfl, (blk_cell BK348.out 3).trans rfl, (blk_cell BK348.out 4).trans rfl, (blk_cell BK348.out 5).trans rfl, (sqa HB hw352_0 :), (sqa HB hw352_1 :), (sqa HB hw352_2 :), (sqa HB hw352_3 :), (sqa HB hw352_4 :), (sqa HB hw352_5 :), (sqa HB hw353_0 :), (sqa HB hw353_1 :), (sqa HB hw353_2 :), (sqa HB hw353_3 :), (sqa HB hw353_4 :), (sqa HB hw353_5 :)⟩ (fun hHeld => ?_); refine with_tabW spec_AbsIn.tab10 spec_AbsIn.bits10 (fun HT_ HW_ => ?_)
        generalize wr.drew = w42 at BK347 BK348 HB HR352_1 HR353_1 hx352_0 hx352_1 hx352_2 hx352_3 hx352_4 hx352_5 hx353_0 hx353_1 hx353_2 hx353_3 hx353_4 hx353_5 hHeld ⊢
        refine sqp HT_ 0 33 ?_
        refine sqp HT_ 2 35 ?_
        refine sqp HT_ 5 38 ?_
        refine sqp HT_ 7 40 ?_
        refine sqw HT_ HW_ 1 34 hHeld ?_
        refine sqp HT_ 3 36 ?_
        refine sqw HT_ HW_ 4 37 hHeld ?_
        refine sqw HT_ HW_ 6 39 hHeld ?_
        refine sqp HT_ 8 41 ?_
        refine sqw HT_ HW_ 9 42 hHeld ?_
        refine sqo HT_ 10 43 (fun K hK => ?_)
        refine sqG Try.func160 #[.agg #[.bool ((rd_T132 l0_2 x5_3).f0), .slice A352_1 ((rd_T132 l0_2 x5_3).f1).length c352_1, .int .i64 ((rd_T132 l0_2 x5_3).f2.f0), .int .i64 ((rd_T132 l0_2 x5_3).f2.f1), .int .i64 ((rd_T132 l0_2 x5_3).f2.f2), .int .i64 ((rd_T132 l0_2 x5_3).f2.f3)], .agg #[.bool ((rd_T132 l1_2 x5_3).f0), .slice A353_1 ((rd_T132 l1_2 x5_3).f1).length c353_1, .int .i64 ((rd_T132 l1_2 x5_3).f2.f0), .int .i64 ((rd_T132 l1_2 x5_3).f2.f1), .int .i64 ((rd_T132 l1_2 x5_3).f2.f2), .int .i64 ((rd_T132 l1_2 x5_3).f2.f3)]] ?_
        with_reducible refine (spec_l12RefIn.calls k3 ((rd_T132 l0_2 x5_3).f0) _ _ ((rd_T132 l0_2 x5_3).f1) ((rd_T132 l0_2 x5_3).f2.f0) ((rd_T132 l0_2 x5_3).f2.f1) ((rd_T132 l0_2 x5_3).f2.f2) ((rd_T132 l0_2 x5_3).f2.f3) ((rd_T132 l1_2 x5_3).f0) _ _ ((rd_T132 l1_2 x5_3).f1) ((rd_T132 l1_2 x5_3).f2.f0) ((rd_T132 l1_2 x5_3).f2.f1) ((rd_T132 l1_2 x5_3).f2.f2) ((rd_T132 l1_2 x5_3).f2.f3) false _ ?side1 ?side2 ?side3 ?side4 A34.out).mono ?_
        (case side1 => exact sqC (Kd.C_below HR352_1.out HB.out))
        (case side2 => exact HC352_1.out)
        (case side3 => exact sqC (Kd.C_below HR353_1.out HB.out))
        (case side4 => exact HC353_1.out)
        rintro e w43 ⟨rfl, hb⟩
        refine ⟨_, rfl, ?_⟩
        refine sqM2 BK347 BK348 hb ?_; clear BK347 BK348; intro BK347 BK348
        replace HB := sqs HB hb
        (try clear hb)
        refine hK.out _ _ ⟨(blk_cell BK347.out 0).trans rfl, (blk_cell BK347.out 1).trans rfl, (blk_cell BK347.out 2).trans rfl, (blk_cell BK347.out 3).trans rfl, (blk_cell BK347.out 4).trans rfl, (blk_cell BK347.out 5).trans rfl, (blk_cell BK348.out 0).trans rfl, (blk_cell BK348.out 1).trans rfl, (blk_cell BK348.out 2).trans rfl, (blk_cell BK348.out 3).trans rfl, (blk_cell BK348.out 4).trans rfl, (blk_cell BK348.out 5).trans rfl, (sqa HB hw352_0 :), (sqa HB hw352_1 :), (sqa HB hw352_2 :), (sqa HB hw352_3 :), (sqa HB hw352_4 :), (sqa HB hw352_5 :), (sqa HB hw353_0 :), (sqa HB hw353_1 :), (sqa HB hw353_2 :), (sqa HB hw353_3 :), (sqa HB hw353_4 :), (sqa HB hw353_5 :)⟩ (fun hHeld => ?_)
        clear hK K
        refine sqnm ?_
        refine sqp HT_ 11 44 ?_
        refine done_ (done_of HT_.out (by kernel_rfl)) ?_
        try go_wp2
        go_ret
        exact sqe HB
       subst c35
       have H1 : (spec_AbsIn.l0 k3 (wrap64 (x5_3 + 1)) true l0_1 l0_2 l0_3 a0_4 l0_5 a1_0 l1_1 l1_2 l1_3 a1_4 l1_5) = some r := by rw [if_pos rfl] at H; exact H
       clear H
       have H := H1
       clear H1
       have H' := Aside0.mk H
       clear H
       have hnb36 := NB347_348.out
       have hnc36 := NB348_347.out
       obtain ⟨hcz37_0, hcz37_1, hcz37_2, hcz37_3, hcz37_4, hcz37_5, hfz37_0, hfz37_1, hfz37_2, hfz37_3, hfz37_4, hfz37_5⟩ := sqc6 BK347
       try go_wp2
       replace BK347 := Aside0.mk (blk_drew BK347.out)
       replace BK348 := Aside0.mk (blk_drew BK348.out)
       replace HB := Aside0.mk (below_drew1 HB.out)
       have p352 : 0 ≤ (x5_3 : Int) := sqd
       have q352 : x5_3 < (l0_2.length : Int) := sqd
       obtain ⟨ad352, A352_1, c352_1, e352, hx352_0, hx352_1, hx352_2, hx352_3, hx352_4, hx352_5, hl352_1, hi352_1⟩ := at_T132 HR0_2.out x5_3 p352 q352
       have hw352_5 := hx352_5
       have hw352_4 := hx352_4
       have hw352_3 := hx352_3
       have hw352_2 := hx352_2
       have hw352_1 := hx352_1
       have hw352_0 := hx352_0
       cases e352
       replace hx352_0 := sqa HB hx352_0
       replace hx352_1 := sqa HB hx352_1
       replace hx352_2 := sqa HB hx352_2
       replace hx352_3 := sqa HB hx352_3
       replace hx352_4 := sqa HB hx352_4
       replace hx352_5 := sqa HB hx352_5
       have HR352_1 := Aside0.mk hi352_1
       have HC352_1 := Aside0.mk hl352_1
       clear hi352_1 hl352_1
       replace p352 := eq_true p352
       replace q352 := eq_true q352
       have p353 : 0 ≤ (x5_3 : Int) := sqd
       have q353 : x5_3 < (l1_2.length : Int) := sqd
       obtain ⟨ad353, A353_1, c353_1, e353, hx353_0, hx353_1, hx353_2, hx353_3, hx353_4, hx353_5, hl353_1, hi353_1⟩ := at_T132 HR1_2.out x5_3 p353 q353
       have hw353_5 := hx353_5
       have hw353_4 := hx353_4
       have hw353_3 := hx353_3
       have hw353_2 := hx353_2
       have hw353_1 := hx353_1
       have hw353_0 := hx353_0
       cases e353
       replace hx353_0 := sqa HB hx353_0
       replace hx353_1 := sqa HB hx353_1
       replace hx353_2 := sqa HB hx353_2
       replace hx353_3 := sqa HB hx353_3
       replace hx353_4 := sqa HB hx353_4
       replace hx353_5 := sqa HB hx353_5
       have HR353_1 := Aside0.mk hi353_1
       have HC353_1 := Aside0.mk hl353_1
       clear hi353_1 hl353_1
       replace p353 := eq_true p353
       replace q353 := eq_true q353
       refine start_ (n := 12) (S := fun w' => w'.cell? ⟨gb347, 0, none⟩ = some (.bool true) ∧ w'.cell? ⟨gb347, 1, none⟩ = some (.slice A0_1 l0_1.length c0_1) ∧ w'.cell? ⟨gb347, 2, none⟩ = some (.slice (some ad352) l0_2.length c0_2) ∧ w'.cell? ⟨gb347, 3, none⟩ = some (.slice A0_3 l0_3.length c0_3) ∧ w'.cell? ⟨gb347, 4, none⟩ = some (.int .i64 a0_4) ∧ w'.cell? ⟨gb347, 5, none⟩ = some (.slice A0_5 l0_5.length c0_5) ∧ w'.cell? ⟨gb348, 0, none⟩ = some (.bool a1_0) ∧ w'.cell? ⟨gb348, 1, none⟩ = some (.slice A1_1 l1_1.length c1_1) ∧ w'.cell? ⟨gb348, 2, none⟩ = some (.slice (some ad353) l1_2.length c1_2) ∧ w'.cell? ⟨gb348, 3, none⟩ = some (.slice A1_3 l1_3.length c1_3) ∧ w'.cell? ⟨gb348, 4, none⟩ = some (.int .i64 a1_4) ∧ w'.cell? ⟨gb348, 5, none⟩ = some (.slice A1_5 l1_5.length c1_5) ∧ w'.cell? (ad352.add ((x5_3).toNat * 6)) = some (.bool ((rd_T132 l0_2 x5_3).f0)) ∧ w'.cell? ⟨(ad352.add ((x5_3).toNat * 6)).block, (ad352.add ((x5_3).toNat * 6)).off + 1, none⟩ = some (.slice A352_1 ((rd_T132 l0_2 x5_3).f1).length c352_1) ∧ w'.cell? ⟨(ad352.add ((x5_3).toNat * 6)).block, (ad352.add ((x5_3).toNat * 6)).off + 2, none⟩ = some (.int .i64 ((rd_T132 l0_2 x5_3).f2.f0)) ∧ w'.cell? ⟨(ad352.add ((x5_3).toNat * 6)).block, (ad352.add ((x5_3).toNat * 6)).off + 3, none⟩ = some (.int .i64 ((rd_T132 l0_2 x5_3).f2.f1)) ∧ w'.cell? ⟨(ad352.add ((x5_3).toNat * 6)).block, (ad352.add ((x5_3).toNat * 6)).off + 4, none⟩ = some (.int .i64 ((rd_T132 l0_2 x5_3).f2.f2)) ∧ w'.cell? ⟨(ad352.add ((x5_3).toNat * 6)).block, (ad352.add ((x5_3).toNat * 6)).off + 5, none⟩ = some (.int .i64 ((rd_T132 l0_2 x5_3).f2.f3)) ∧ w'.cell? (ad353.add ((x5_3).toNat * 6)) = some (.bool ((rd_T132 l1_2 x5_3).f0)) ∧ w'.cell? ⟨(ad353.add ((x5_3).toNat * 6)).block, (ad353.add ((x5_3).toNat * 6)).off + 1, none⟩ = some (.slice A353_1 ((rd_T132 l1_2 x5_3).f1).length c353_1) ∧ w'.cell? ⟨(ad353.add ((x5_3).toNat * 6)).block, (ad353.add ((x5_3).toNat * 6)).off + 2, none⟩ = some (.int .i64 ((rd_T132 l1_2 x5_3).f2.f0)) ∧ w'.cell? ⟨(ad353.add ((x5_3).toNat * 6)).block, (ad353.add ((x5_3).toNat * 6)).off + 3, none⟩ = some (.int .i64 ((rd_T132 l1_2 x5_3).f2.f1)) ∧ w'.cell? ⟨(ad353.add ((x5_3).toNat * 6)).block, (ad353.add ((x5_3).toNat * 6)).off + 4, none⟩ = some (.int .i64 ((rd_T132 l1_2 x5_3).f2.f2)) ∧ w'.cell? ⟨(ad353.add ((x5_3).toNat * 6)).block, (ad353.add ((x5_3).toNat * 6)).off + 5, none⟩ = some (.int .i64 ((rd_T132 l1_2 x5_3).f2.f3))) (ds := []) #[false, false, false, false, false, false, false, false, false, false, false, false] (by kernel_rfl) rfl rfl ⟨(blk_cell BK347.out 0).trans rfl, (blk_cell BK347.out 1).trans rfl, (blk_cell BK347.out 2).trans rfl, (blk_cell BK347.out 3).trans rfl, (blk_cell BK347.out 4).trans rfl, (blk_cell BK347.out 5).trans rfl, (blk_cell BK348.out 0).trans rfl, (blk_cell BK348.out 1).trans rfl, (blk_cell BK348.out 2).trans rfl, (blk_cell BK348.out 3).trans rfl, (blk_cell BK348.out 4).trans rfl, (blk_cell BK348.out 5).trans rfl, (sqa HB hw352_0 :), (sqa HB hw352_1 :), (sqa HB hw352_2 :), (sqa HB hw352_3 :), (sqa HB hw352_4 :), (sqa HB hw352_5 :), (sqa HB hw353_0 :), (sqa HB hw353_1 :), (sqa HB hw353_2 :), (sqa HB hw353_3 :), (sqa HB hw353_4 :), (sqa HB hw353_5 :)⟩ (fun hHeld => ?_); refine with_tabW spec_AbsIn.tab10 spec_AbsIn.bits10 (fun HT_ HW_ => ?_)
       generalize wr.drew = w38 at BK347 BK348 HB HR352_1 HR353_1 hx352_0 hx352_1 hx352_2 hx352_3 hx352_4 hx352_5 hx353_0 hx353_1 hx353_2 hx353_3 hx353_4 hx353_5 hHeld ⊢
       refine sqp HT_ 0 33 ?_
       refine sqp HT_ 2 35 ?_
       refine sqp HT_ 5 38 ?_
       refine sqp HT_ 7 40 ?_
       refine sqw HT_ HW_ 1 34 hHeld ?_
       refine sqp HT_ 3 36 ?_
       refine sqw HT_ HW_ 4 37 hHeld ?_
       refine sqw HT_ HW_ 6 39 hHeld ?_
       refine sqp HT_ 8 41 ?_
       refine sqw HT_ HW_ 9 42 hHeld ?_
       refine sqo HT_ 10 43 (fun K hK => ?_)
       refine sqG Try.func160 #[.agg #[.bool ((rd_T132 l0_2 x5_3).f0), .slice A352_1 ((rd_T132 l0_2 x5_3).f1).length c352_1, .int .i64 ((rd_T132 l0_2 x5_3).f2.f0), .int .i64 ((rd_T132 l0_2 x5_3).f2.f1), .int .i64 ((rd_T132 l0_2 x5_3).f2.f2), .int .i64 ((rd_T132 l0_2 x5_3).f2.f3)], .agg #[.bool ((rd_T132 l1_2 x5_3).f0), .slice A353_1 ((rd_T132 l1_2 x5_3).f1).length c353_1, .int .i64 ((rd_T132 l1_2 x5_3).f2.f0), .int .i64 ((rd_T132 l1_2 x5_3).f2.f1), .int .i64 ((rd_T132 l1_2 x5_3).f2.f2), .int .i64 ((rd_T132 l1_2 x5_3).f2.f3)]] ?_
       with_reducible refine (spec_l12RefIn.calls k3 ((rd_T132 l0_2 x5_3).f0) _ _ ((rd_T132 l0_2 x5_3).f1) ((rd_T132 l0_2 x5_3).f2.f0) ((rd_T132 l0_2 x5_3).f2.f1) ((rd_T132 l0_2 x5_3).f2.f2) ((rd_T132 l0_2 x5_3).f2.f3) ((rd_T132 l1_2 x5_3).f0) _ _ ((rd_T132 l1_2 x5_3).f1) ((rd_T132 l1_2 x5_3).f2.f0) ((rd_T132 l1_2 x5_3).f2.f1) ((rd_T132 l1_2 x5_3).f2.f2) ((rd_T132 l1_2 x5_3).f2.f3) true _ ?side1 ?side2 ?side3 ?side4 A34.out).mono ?_
       (case side1 => exact sqC (Kd.C_below HR352_1.out HB.out))
       (case side2 => exact HC352_1.out)
       (case side3 => exact sqC (Kd.C_below HR353_1.out HB.out))
       (case side4 => exact HC353_1.out)
       rintro e w39 ⟨rfl, hb⟩
       refine ⟨_, rfl, ?_⟩
       refine sqM2 BK347 BK348 hb ?_; clear BK347 BK348; intro BK347 BK348
       replace HB := sqs HB hb
       (try clear hb)
       refine hK.out _ _ ⟨(blk_cell BK347.out 0).trans rfl, (blk_cell BK347.out 1).trans rfl, (blk_cell BK347.out 2).trans rfl, (blk_cell BK347.out 3).trans rfl, (blk_cell BK347.out 4).trans rfl, (blk_cell BK347.out 5).trans rfl, (blk_cell BK348.out 0).trans rfl, (blk_cell BK348.out 1).trans rfl, (blk_cell BK348.out 2).trans rfl, (blk_cell BK348.out 3).trans rfl, (blk_cell BK348.out 4).trans rfl, (blk_cell BK348.out 5).trans rfl, (sqa HB hw352_0 :), (sqa HB hw352_1 :), (sqa HB hw352_2 :), (sqa HB hw352_3 :), (sqa HB hw352_4 :), (sqa HB hw352_5 :), (sqa HB hw353_0 :), (sqa HB hw353_1 :), (sqa HB hw353_2 :), (sqa HB hw353_3 :), (sqa HB hw353_4 :), (sqa HB hw353_5 :)⟩ (fun hHeld => ?_)
       clear hK K
       refine sqnm ?_
       refine sqp HT_ 11 44 ?_
       refine done_ (done_of HT_.out (by kernel_rfl)) ?_
       try go_wp2
       go_roundg k3
       case measure => have := HJ2.out; have := HJ18.out; have := HK3.out; omega
       case rel => exact ⟨(wrap64 (x5_3 + 1)), (by first | rfl | (simp; done) | (simp [*]; done)), H', ⟨by have := HJ2.out; have := HJ18.out; have := HK3.out; omega⟩, sqk BK347, sqk BK348, sqh HB⟩

end Go.Proofs.Ytkekcenlleebeaa.PFnExactAbsIn
