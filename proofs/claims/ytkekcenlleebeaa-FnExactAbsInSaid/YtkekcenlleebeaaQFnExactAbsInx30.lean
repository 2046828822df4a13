/- Functions of the program as plain Lean functions, and that calls of them come to what these tell. Conditions: those in each law. -/
import Derived.Test.YtkekcenlleebeaaSq
import Derived.Test.YtkekcenlleebeaaDFnExactAbsIn
import Derived.Test.YtkekcenlleebeaaQFnExactAbsInx0
import Derived.Test.YtkekcenlleebeaaQFnExactAbsInx22
import Derived.Test.YtkekcenlleebeaaQFnExactAbsInx26
import Derived.Test.YtkekcenlleebeaaQFnExactAbsInx27
import Derived.Test.YtkekcenlleebeaaQFnExactAbsInx29
namespace Go.Proofs.Ytkekcenlleebeaa.PFnExactAbsIn
open Go.RowKit Go.Proofs.Ytkekcenlleebeaa.Sq Go.Proofs.YtkekcenlleebeaaW.PrintWords Go.Proofs.YtkekcenlleebeaaW.PrintLast Go.Proofs.YtkekcenlleebeaaW.PrintMore
attribute [local go_sem] max2_int min2_int max_two min_two max_three min_three max_four min_four   -- for this text's walks alone
set_option linter.unusedVariables false
set_option linter.unusedSimpArgs false

/-! ### impl_AbsIn: function 70 -/
def impl_AbsIn.T10 : Bool × List (List Nat × List Nat) := (true, [([], []), ([], []), ([1], [1]), ([], []), ([2, 3], [2, 3]), ([4], [4]), ([0, 5], [0, 5]), ([6], [6])])
def impl_AbsIn.B10 : List Nat := [0, 0, 2, 0, 14, 30, 63, 127]
theorem impl_AbsIn.tab10 : rtab .any (opsOf Try.f70 10) = impl_AbsIn.T10 := by kernel_rfl
theorem impl_AbsIn.bits10 : waitsOk impl_AbsIn.T10.2 impl_AbsIn.B10 = true := by kernel_rfl
set_option maxHeartbeats 8000000 in
set_option maxRecDepth 100000 in
theorem impl_AbsIn.calls (k : Nat) (a0_0 : Bool) (A0_1 : Option Addr) (c0_1 : Nat) (l0_1 : List (S30)) (A0_2 : Option Addr) (c0_2 : Nat) (l0_2 : List (S132)) (A0_3 : Option Addr) (c0_3 : Nat) (l0_3 : List (S30)) (a0_4 : Int) (A0_5 : Option Addr) (c0_5 : Nat) (l0_5 : List Int) (a1_0 : Bool) (A1_1 : Option Addr) (c1_1 : Nat) (l1_1 : List (S30)) (A1_2 : Option Addr) (c1_2 : Nat) (l1_2 : List (S132)) (A1_3 : Option Addr) (c1_3 : Nat) (l1_3 : List (S30)) (a1_4 : Int) (A1_5 : Option Addr) (c1_5 : Nat) (l1_5 : List Int) (r : Bool) (w : World) (hr0_1 : Kd.C k30 w A0_1 l0_1.length l0_1) (hc0_1 : l0_1.length ≤ c0_1) (hr0_2 : Kd.C k132 w A0_2 l0_2.length l0_2) (hc0_2 : l0_2.length ≤ c0_2) (hr0_3 : Kd.C k30 w A0_3 l0_3.length l0_3) (hc0_3 : l0_3.length ≤ c0_3) (hr0_5 : Kd.C (Kd.int .i64) w A0_5 l0_5.length l0_5) (hc0_5 : l0_5.length ≤ c0_5) (hr1_1 : Kd.C k30 w A1_1 l1_1.length l1_1) (hc1_1 : l1_1.length ≤ c1_1) (hr1_2 : Kd.C k132 w A1_2 l1_2.length l1_2) (hc1_2 : l1_2.length ≤ c1_2) (hr1_3 : Kd.C k30 w A1_3 l1_3.length l1_3) (hc1_3 : l1_3.length ≤ c1_3) (hr1_5 : Kd.C (Kd.int .i64) w A1_5 l1_5.length l1_5) (hc1_5 : l1_5.length ≤ c1_5) (h : impl_AbsIn.f k a0_0 l0_1 l0_2 l0_3 a0_4 l0_5 a1_0 l1_1 l1_2 l1_3 a1_4 l1_5 = some r) :
  Calls Try.prog 70 #[.agg #[.bool a0_0, .slice A0_1 l0_1.length c0_1, .slice A0_2 l0_2.length c0_2, .slice A0_3 l0_3.length c0_3, .int .i64 a0_4, .slice A0_5 l0_5.length c0_5], .agg #[.bool a1_0, .slice A1_1 l1_1.length c1_1, .slice A1_2 l1_2.length c1_2, .slice A1_3 l1_3.length c1_3, .int .i64 a1_4, .slice A1_5 l1_5.length c1_5]] w fun e w' => e = .returned (.bool r) ∧ Below w.heap.size w w' := by
 have hu78 := Try.underlying78
 have hu132 := Try.underlying132
 have hu41 := Try.underlying41
 have HR0_1 := Aside0.mk hr0_1
 have HC0_1 := Aside0.mk hc0_1
 clear hr0_1 hc0_1
 have HR0_2 := Aside0.mk hr0_2
 have HC0_2 := Aside0.mk hc0_2
 clear hr0_2 hc0_2
 have HR0_3 := Aside0.mk hr0_3
 have HC0_3 := Aside0.mk hc0_3
 clear hr0_3 hc0_3
 have HR0_5 := Aside0.mk hr0_5
 have HC0_5 := Aside0.mk hc0_5
 clear hr0_5 hc0_5
 have HR1_1 := Aside0.mk hr1_1
 have HC1_1 := Aside0.mk hc1_1
 clear hr1_1 hc1_1
 have HR1_2 := Aside0.mk hr1_2
 have HC1_2 := Aside0.mk hc1_2
 clear hr1_2 hc1_2
 have HR1_3 := Aside0.mk hr1_3
 have HC1_3 := Aside0.mk hc1_3
 clear hr1_3 hc1_3
 have HR1_5 := Aside0.mk hr1_5
 have HC1_5 := Aside0.mk hc1_5
 clear hr1_5 hc1_5
 have HB := Aside0.mk (Below.refl w.heap.size w)
 have H : ((impl_AbsOk.f k a0_0 l0_1 l0_2 l0_3 a0_4 l0_5).bind fun t486 => (if t486 = true then ((impl_AbsOk.f k a1_0 l1_1 l1_2 l1_3 a1_4 l1_5).bind fun t487 => (impl_AbsIn.j0 k (!t487) a0_0 l0_1 l0_2 l0_3 a0_4 l0_5 a1_0 l1_1 l1_2 l1_3 a1_4 l1_5)) else (impl_AbsIn.j0 k true a0_0 l0_1 l0_2 l0_3 a0_4 l0_5 a1_0 l1_1 l1_2 l1_3 a1_4 l1_5))) = some r := h
 clear h
 have HC3 := Aside0.mk H
 clear H
 go_enter Try.func70, Try.ntmps70
 go_upto_region 1 with (first | ((with_reducible refine gate_dst (N := 2) rfl ?_); refine sqx 2 #[.bool a0_0, .slice A0_1 l0_1.length c0_1, .slice A0_2 l0_2.length c0_2, .slice A0_3 l0_3.length c0_3, .int .i64 a0_4, .slice A0_5 l0_5.length c0_5] 78 ?_; intro gb484 hg w4 hbox hb; have BK484 := Aside0.mk hbox; have GW484 := sqg HB hg; have GE484 := sqg HB hg; replace HB := sqs HB hb; clear hb hbox hg) | ((with_reducible refine gate_dst (N := 3) rfl ?_); refine sqx 3 #[.bool a1_0, .slice A1_1 l1_1.length c1_1, .slice A1_2 l1_2.length c1_2, .slice A1_3 l1_3.length c1_3, .int .i64 a1_4, .slice A1_5 l1_5.length c1_5] 78 ?_; intro gb485 hg w5 hbox hb; have BK485 := Aside0.mk hbox; have GW485 := sqg HB hg; have GE485 := sqg HB hg; have NB484_485 := sqn BK484 hg; have NB485_484 := sqm BK484 hg; replace BK484 := sqb BK484 hb; replace HB := sqs HB hb; clear hb hbox hg))
 (try simp only [Act.put, List.setIfInBounds_toArray, List.set_cons_zero, List.set_cons_succ])
 go_cut [14] (fun v14 wc => ∃ (kq : Nat) (x14_2 : Bool), v14 = .bool x14_2 ∧ Aside0 (impl_AbsIn.j0 kq x14_2 a0_0 l0_1 l0_2 l0_3 a0_4 l0_5 a1_0 l1_1 l1_2 l1_3 a1_4 l1_5 = some r) ∧ Aside0 (kq ≤ k) ∧ Aside0 (wc.heap[gb484]? = some (.cells #[.bool a0_0, (.slice A0_1 l0_1.length c0_1), (.slice A0_2 l0_2.length c0_2), (.slice A0_3 l0_3.length c0_3), .int .i64 a0_4, (.slice A0_5 l0_5.length c0_5)] 78 (0, 0))) ∧ Aside0 (wc.heap[gb485]? = some (.cells #[.bool a1_0, (.slice A1_1 l1_1.length c1_1), (.slice A1_2 l1_2.length c1_2), (.slice A1_3 l1_3.length c1_3), .int .i64 a1_4, (.slice A1_5 l1_5.length c1_5)] 78 (0, 0))) ∧ Aside0 (Below w.heap.size w wc))
 case first =>
  have H := HC3.out
  clear HC3
  replace H := sqbi H
  obtain ⟨t486, A6, H⟩ := H
  replace H : (if t486 = true then ((impl_AbsOk.f k a1_0 l1_1 l1_2 l1_3 a1_4 l1_5).bind fun t487 => (impl_AbsIn.j0 k (!t487) a0_0 l0_1 l0_2 l0_3 a0_4 l0_5 a1_0 l1_1 l1_2 l1_3 a1_4 l1_5)) else (impl_AbsIn.j0 k true a0_0 l0_1 l0_2 l0_3 a0_4 l0_5 a1_0 l1_1 l1_2 l1_3 a1_4 l1_5)) = some r := H
  rcases sqI (t486 = true) with c7 | c7
  ·replace c7 := Bool.eq_false_iff.mpr c7
   subst c7
   have H1 : (impl_AbsIn.j0 k true a0_0 l0_1 l0_2 l0_3 a0_4 l0_5 a1_0 l1_1 l1_2 l1_3 a1_4 l1_5) = some r := by rw [if_neg (show ¬ (false = true) by decide)] at H; exact H
   clear H
   have H := H1
   clear H1
   have H' := Aside0.mk H
   clear H
   have hnb14 := NB484_485.out
   have hnc14 := NB485_484.out
   obtain ⟨hcz15_0, hcz15_1, hcz15_2, hcz15_3, hcz15_4, hcz15_5, hfz15_0, hfz15_1, hfz15_2, hfz15_3, hfz15_4, hfz15_5⟩ := sqc6 BK484
   go_wp2_with (first | ((with_reducible refine gate_callee (f := 60) rfl ?_); refine sqL (some 8) Try.func60 #[.agg #[.bool a0_0, .slice A0_1 l0_1.length c0_1, .slice A0_2 l0_2.length c0_2, .slice A0_3 l0_3.length c0_3, .int .i64 a0_4, .slice A0_5 l0_5.length c0_5]] ?_; (with_reducible refine (impl_AbsOk.calls k a0_0 _ _ l0_1 _ _ l0_2 _ _ l0_3 a0_4 _ _ l0_5 false _ ?side1 ?side2 ?side3 ?side4 ?side5 ?side6 ?side7 ?side8 A6.out).mono ?_); (case side1 => exact sqC (Kd.C_below HR0_1.out HB.out)); (case side2 => exact HC0_1.out); (case side3 => exact sqC (Kd.C_below HR0_2.out HB.out)); (case side4 => exact HC0_2.out); (case side5 => exact sqC (Kd.C_below HR0_3.out HB.out)); (case side6 => exact HC0_3.out); (case side7 => exact sqC (Kd.C_below HR0_5.out HB.out)); (case side8 => exact HC0_5.out); rintro e w16 ⟨rfl, hb⟩; refine ⟨_, rfl, ?_⟩; refine sqM2 BK484 BK485 hb ?_; clear BK484 BK485; intro BK484 BK485; replace HB := sqs HB hb; (try clear hb)))
   go_meet
   case rel => exact ⟨_, (true), (by first | rfl | (simp; done) | (simp [*]; done)), H', ⟨by first | omega | exact Nat.le_refl _⟩, sqk BK484, sqk BK485, sqh HB⟩
  subst c7
  have H1 : ((impl_AbsOk.f k a1_0 l1_1 l1_2 l1_3 a1_4 l1_5).bind fun t487 => (impl_AbsIn.j0 k (!t487) a0_0 l0_1 l0_2 l0_3 a0_4 l0_5 a1_0 l1_1 l1_2 l1_3 a1_4 l1_5)) = some r := by rw [if_pos rfl] at H; exact H
  clear H
  have H := H1
  clear H1
  replace H := sqbi H
  obtain ⟨t487, A8, H⟩ := H
  replace H : (impl_AbsIn.j0 k (!t487) a0_0 l0_1 l0_2 l0_3 a0_4 l0_5 a1_0 l1_1 l1_2 l1_3 a1_4 l1_5) = some r := H
  have H' := Aside0.mk H
  clear H
  have hnb9 := NB484_485.out
  have hnc9 := NB485_484.out
  obtain ⟨hcz10_0, hcz10_1, hcz10_2, hcz10_3, hcz10_4, hcz10_5, hfz10_0, hfz10_1, hfz10_2, hfz10_3, hfz10_4, hfz10_5⟩ := sqc6 BK484
  go_wp2_with (first | ((with_reducible refine gate_callee (f := 60) rfl ?_); refine sqL (some 8) Try.func60 #[.agg #[.bool a0_0, .slice A0_1 l0_1.length c0_1, .slice A0_2 l0_2.length c0_2, .slice A0_3 l0_3.length c0_3, .int .i64 a0_4, .slice A0_5 l0_5.length c0_5]] ?_; (with_reducible refine (impl_AbsOk.calls k a0_0 _ _ l0_1 _ _ l0_2 _ _ l0_3 a0_4 _ _ l0_5 true _ ?side1 ?side2 ?side3 ?side4 ?side5 ?side6 ?side7 ?side8 A6.out).mono ?_); (case side1 => exact sqC (Kd.C_below HR0_1.out HB.out)); (case side2 => exact HC0_1.out); (case side3 => exact sqC (Kd.C_below HR0_2.out HB.out)); (case side4 => exact HC0_2.out); (case side5 => exact sqC (Kd.C_below HR0_3.out HB.out)); (case side6 => exact HC0_3.out); (case side7 => exact sqC (Kd.C_below HR0_5.out HB.out)); (case side8 => exact HC0_5.out); rintro e w11 ⟨rfl, hb⟩; refine ⟨_, rfl, ?_⟩; refine sqM2 BK484 BK485 hb ?_; clear BK484 BK485; intro BK484 BK485; replace HB := sqs HB hb; (try clear hb); obtain ⟨hcz12_0, hcz12_1, hcz12_2, hcz12_3, hcz12_4, hcz12_5, hfz12_0, hfz12_1, hfz12_2, hfz12_3, hfz12_4, hfz12_5⟩ := sqc6 BK485) | (go_at_call 60; (with_reducible refine (impl_AbsOk.calls k a1_0 _ _ l1_1 _ _ l1_2 _ _ l1_3 a1_4 _ _ l1_5 t487 _ ?side1 ?side2 ?side3 ?side4 ?side5 ?side6 ?side7 ?side8 A8.out).mono ?_); (case side1 => exact sqC (Kd.C_below HR1_1.out HB.out)); (case side2 => exact HC1_1.out); (case side3 => exact sqC (Kd.C_below HR1_2.out HB.out)); (case side4 => exact HC1_2.out); (case side5 => exact sqC (Kd.C_below HR1_3.out HB.out)); (case side6 => exact HC1_3.out); (case side7 => exact sqC (Kd.C_below HR1_5.out HB.out)); (case side8 => exact HC1_5.out); rintro e w13 ⟨rfl, hb⟩; refine sqM2 BK484 BK485 hb ?_; clear BK484 BK485; intro BK484 BK485; replace HB := sqs HB hb; (try clear hb)))
  go_meet
  case rel => exact ⟨_, (!t487), (by first | rfl | (simp; done) | (simp [*]; done)), H', ⟨by first | omega | exact Nat.le_refl _⟩, sqk BK484, sqk BK485, sqh HB⟩
 case rest =>
  clear HC3
  obtain ⟨kq, x14_2, rfl, HA, HJ2, BK484, BK485, HB⟩ := hcut
  cases kq with
  | zero => exact absurd HA.out (by simp [impl_AbsIn.j0])
  | succ kj2 =>
   have H := HA.out
   clear HA
   simp only [impl_AbsIn.j0] at H
   by_cases c17 : x14_2 = true
   ·subst c17
    have H1 : (some false) = some r := by rw [if_pos rfl] at H; exact H
    clear H
    have H := H1
    clear H1
    obtain rfl := Option.some.inj H
    go_wp2
    go_ret
    exact sqe HB
   replace c17 := Bool.eq_false_iff.mpr c17
   subst c17
   have H1 : (if a0_0 = true then (if a1_0 = true then ((impl_absAlike.f a0_0 l0_1 l0_2 l0_3 a0_4 l0_5 a1_0 l1_1 l1_2 l1_3 a1_4 l1_5).bind fun t488 => (impl_AbsIn.j1 kj2 (!t488) a0_0 l0_1 l0_2 l0_3 a0_4 l0_5 a1_0 l1_1 l1_2 l1_3 a1_4 l1_5)) else (impl_AbsIn.j1 kj2 true a0_0 l0_1 l0_2 l0_3 a0_4 l0_5 a1_0 l1_1 l1_2 l1_3 a1_4 l1_5)) else (some true)) = some r := by rw [if_neg (show ¬ (false = true) by decide)] at H; exact H
   clear H
   have H := H1
   clear H1
   rcases sqI (a0_0 = true) with c18 | c18
   ·replace c18 := Bool.eq_false_iff.mpr c18
    subst c18
    have H1 : (some true) = some r := by rw [if_neg (show ¬ (false = true) by decide)] at H; exact H
    clear H
    have H := H1
    clear H1
    obtain rfl := Option.some.inj H
    have hnb79 := NB484_485.out
    have hnc79 := NB485_484.out
    obtain ⟨hcz80_0, hcz80_1, hcz80_2, hcz80_3, hcz80_4, hcz80_5, hfz80_0, hfz80_1, hfz80_2, hfz80_3, hfz80_4, hfz80_5⟩ := sqc6 BK484
    go_wp2
    go_ret
    exact sqe HB
   subst c18
   have H1 : (if a1_0 = true then ((impl_absAlike.f true l0_1 l0_2 l0_3 a0_4 l0_5 a1_0 l1_1 l1_2 l1_3 a1_4 l1_5).bind fun t488 => (impl_AbsIn.j1 kj2 (!t488) true l0_1 l0_2 l0_3 a0_4 l0_5 a1_0 l1_1 l1_2 l1_3 a1_4 l1_5)) else (impl_AbsIn.j1 kj2 true true l0_1 l0_2 l0_3 a0_4 l0_5 a1_0 l1_1 l1_2 l1_3 a1_4 l1_5)) = some r := by rw [if_pos rfl] at H; exact H
   clear H
   have H := H1
   clear H1
   have HC19 := Aside0.mk H
   clear H
   have hnb20 := NB484_485.out
   have hnc20 := NB485_484.out
   obtain ⟨hcz21_0, hcz21_1, hcz21_2, hcz21_3, hcz21_4, hcz21_5, hfz21_0, hfz21_1, hfz21_2, hfz21_3, hfz21_4, hfz21_5⟩ := sqc6 BK484
   go_upto_region 5 with (fail)
   go_cut [26] (fun v26 wc => ∃ (kq : Nat) (x26_18 : Bool), v26 = .bool x26_18 ∧ Aside0 (impl_AbsIn.j1 kq x26_18 true l0_1 l0_2 l0_3 a0_4 l0_5 a1_0 l1_1 l1_2 l1_3 a1_4 l1_5 = some r) ∧ Aside0 (kq ≤ kj2) ∧ Aside0 (wc.heap[gb484]? = some (.cells #[.bool true, (.slice A0_1 l0_1.length c0_1), (.slice A0_2 l0_2.length c0_2), (.slice A0_3 l0_3.length c0_3), .int .i64 a0_4, (.slice A0_5 l0_5.length c0_5)] 78 (0, 0))) ∧ Aside0 (wc.heap[gb485]? = some (.cells #[.bool a1_0, (.slice A1_1 l1_1.length c1_1), (.slice A1_2 l1_2.length c1_2), (.slice A1_3 l1_3.length c1_3), .int .i64 a1_4, (.slice A1_5 l1_5.length c1_5)] 78 (0, 0))) ∧ Aside0 (Below w.heap.size w wc))
   case first =>
    have H := HC19.out
    clear HC19
    rcases sqI (a1_0 = true) with c22 | c22
    ·replace c22 := Bool.eq_false_iff.mpr c22
     subst c22
     have H1 : (impl_AbsIn.j1 kj2 true true l0_1 l0_2 l0_3 a0_4 l0_5 false l1_1 l1_2 l1_3 a1_4 l1_5) = some r := by rw [if_neg (show ¬ (false = true) by decide)] at H; exact H
     clear H
     have H := H1
     clear H1
     have H' := Aside0.mk H
     clear H
     have hnb28 := NB485_484.out
     have hnc28 := NB484_485.out
     obtain ⟨hcz29_0, hcz29_1, hcz29_2, hcz29_3, hcz29_4, hcz29_5, hfz29_0, hfz29_1, hfz29_2, hfz29_3, hfz29_4, hfz29_5⟩ := sqc6 BK485
     go_wp2
     go_meet
     case rel => exact ⟨_, (true), (by first | rfl | (simp; done) | (simp [*]; done)), H', ⟨by have := HJ2.out; first | omega | exact Nat.le_refl _⟩, sqk BK484, sqk BK485, sqh HB⟩
    subst c22
    have H1 : ((impl_absAlike.f true l0_1 l0_2 l0_3 a0_4 l0_5 true l1_1 l1_2 l1_3 a1_4 l1_5).bind fun t488 => (impl_AbsIn.j1 kj2 (!t488) true l0_1 l0_2 l0_3 a0_4 l0_5 true l1_1 l1_2 l1_3 a1_4 l1_5)) = some r := by rw [if_pos rfl] at H; exact H
    clear H
    have H := H1
    clear H1
    replace H := sqbi H
    obtain ⟨t488, A23, H⟩ := H
    replace H : (impl_AbsIn.j1 kj2 (!t488) true l0_1 l0_2 l0_3 a0_4 l0_5 true l1_1 l1_2 l1_3 a1_4 l1_5) = some r := H
    have H' := Aside0.mk H
    clear H
    have hnb24 := NB485_484.out
    have hnc24 := NB484_485.out
    obtain ⟨hcz25_0, hcz25_1, hcz25_2, hcz25_3, hcz25_4, hcz25_5, hfz25_0, hfz25_1, hfz25_2, hfz25_3, hfz25_4, hfz25_5⟩ := sqc6 BK485
    obtain ⟨hcz26_0, hcz26_1, hcz26_2, hcz26_3, hcz26_4, hcz26_5, hfz26_0, hfz26_1, hfz26_2, hfz26_3, hfz26_4, hfz26_5⟩ := sqc6 BK484
    go_wp2_with (first | (go_at_call 163; (with_reducible refine (impl_absAlike.calls true _ _ l0_1 _ _ l0_2 _ _ l0_3 a0_4 _ _ l0_5 true _ _ l1_1 _ _ l1_2 _ _ l1_3 a1_4 _ _ l1_5 t488 _ ?side1 ?side2 ?side3 ?side4 ?side5 ?side6 ?side7 ?side8 ?side9 ?side10 ?side11 ?side12 ?side13 ?side14 ?side15 ?side16 A23.out).mono ?_); (case side1 => exact sqC (Kd.C_below HR0_1.out HB.out)); (case side2 => exact HC0_1.out); (case side3 => exact sqC (Kd.C_below HR0_2.out HB.out)); (case side4 => exact HC0_2.out); (case side5 => exact sqC (Kd.C_below HR0_3.out HB.out)); (case side6 => exact HC0_3.out); (case side7 => exact sqC (Kd.C_below HR0_5.out HB.out)); (case side8 => exact HC0_5.out); (case side9 => exact sqC (Kd.C_below HR1_1.out HB.out)); (case side10 => exact HC1_1.out); (case side11 => exact sqC (Kd.C_below HR1_2.out HB.out)); (case side12 => exact HC1_2.out); (case side13 => exact sqC (Kd.C_below HR1_3.out HB.out)); (case side14 => exact HC1_3.out); (case side15 => exact sqC (Kd.C_below HR1_5.out HB.out)); (case side16 => exact HC1_5.out); rintro e w27 ⟨rfl, hb⟩; refine sqM2 BK484 BK485 hb ?_; clear BK484 BK485; intro BK484 BK485; replace HB := sqs HB hb; (try clear hb)))
    go_meet
    case rel => exact ⟨_, (!t488), (by first | rfl | (simp; done) | (simp [*]; done)), H', ⟨by have := HJ2.out; first | omega | exact Nat.le_refl _⟩, sqk BK484, sqk BK485, sqh HB⟩
   case rest =>
    clear HC19
    obtain ⟨kq, x26_18, rfl, HA, HJ18, BK484, BK485, HB⟩ := hcut
    cases kq with
    | zero => exact absurd HA.out (by simp [impl_AbsIn.j1])
    | succ kj18 =>
     have H := HA.out
     clear HA
     simp only [impl_AbsIn.j1] at H
     by_cases c30 : x26_18 = true
     ·subst c30
      have H1 : (some false) = some r := by rw [if_pos rfl] at H; exact H
      clear H
      have H := H1
      clear H1
      obtain rfl := Option.some.inj H
      go_wp2
      go_ret
      exact sqe HB
     replace c30 := Bool.eq_false_iff.mpr c30
     subst c30
     have H1 : (impl_AbsIn.l0 kj18 l0_2 (l0_2.length : Int) 0 true l0_1 l0_2 l0_3 a0_4 l0_5 a1_0 l1_1 l1_2 l1_3 a1_4 l1_5) = some r := by rw [if_neg (show ¬ (false = true) by decide)] at H; exact H
     clear H
     have H := H1
     clear H1
     have H' := Aside0.mk H
     clear H
     have hnb31 := NB484_485.out
     have hnc31 := NB485_484.out
     obtain ⟨hcz32_0, hcz32_1, hcz32_2, hcz32_3, hcz32_4, hcz32_5, hfz32_0, hfz32_1, hfz32_2, hfz32_3, hfz32_4, hfz32_5⟩ := sqc6 BK484
     go_wp2
     go_loopg [30] kj18 (fun kq v30 w' => ∃ (x30_3 : Int), v30 = .int .i64 x30_3 ∧ Aside0 (impl_AbsIn.l0 kq l0_2 (l0_2.length : Int) x30_3 true l0_1 l0_2 l0_3 a0_4 l0_5 a1_0 l1_1 l1_2 l1_3 a1_4 l1_5 = some r) ∧ Aside0 (kq ≤ kj18) ∧ Aside0 (w'.heap[gb484]? = some (.cells #[.bool true, (.slice A0_1 l0_1.length c0_1), (.slice A0_2 l0_2.length c0_2), (.slice A0_3 l0_3.length c0_3), .int .i64 a0_4, (.slice A0_5 l0_5.length c0_5)] 78 (0, 0))) ∧ Aside0 (w'.heap[gb485]? = some (.cells #[.bool a1_0, (.slice A1_1 l1_1.length c1_1), (.slice A1_2 l1_2.length c1_2), (.slice A1_3 l1_3.length c1_3), .int .i64 a1_4, (.slice A1_5 l1_5.length c1_5)] 78 (0, 0))) ∧ Aside0 (Below w.heap.size w w'))
     case atStart => exact ⟨(0), (by first | rfl | (simp; done) | (simp [*]; done)), H', ⟨Nat.le_refl _⟩, sqk BK484, sqk BK485, sqh HB⟩
     case round =>
      clear H'
      obtain ⟨x30_3, rfl, HA, HK3, BK484, BK485, HB⟩ := hrel
      cases gk with
      | zero => exact absurd HA.out (by simp [impl_AbsIn.l0])
      | succ k3 =>
       have H := HA.out
       clear HA
       simp only [impl_AbsIn.l0] at H
       replace H := sqi H
       rcases H with ⟨c33, H⟩ | ⟨c33, H⟩
       ·have c33b0 := decide_eq_false c33
        clear c33
        replace H := sqbi H
        obtain ⟨t493, A53, H⟩ := H
        replace H : (if t493 = true then ((impl_absValsIn.f k3 l0_3 l1_3).bind fun t494 => (if t494 = true then ((impl_GapsIn.f k3 a0_4 l0_5 a1_4 l1_5).bind fun t495 => (some t495)) else (some false))) else (some false)) = some r := H
        rcases sqI (t493 = true) with c54 | c54
        ·replace c54 := Bool.eq_false_iff.mpr c54
         subst c54
         have H1 : (some false) = some r := by rw [if_neg (show ¬ (false = true) by decide)] at H; exact H
         clear H
         have H := H1
         clear H1
         obtain rfl := Option.some.inj H
         have hnb75 := NB484_485.out
         have hnc75 := NB485_484.out
         obtain ⟨hcz76_0, hcz76_1, hcz76_2, hcz76_3, hcz76_4, hcz76_5, hfz76_0, hfz76_1, hfz76_2, hfz76_3, hfz76_4, hfz76_5⟩ := sqc6 BK484
         obtain ⟨hcz77_0, hcz77_1, hcz77_2, hcz77_3, hcz77_4, hcz77_5, hfz77_0, hfz77_1, hfz77_2, hfz77_3, hfz77_4, hfz77_5⟩ := sqc6 BK485
         go_wp2_with (first | ((with_reducible refine gate_callee (f := 165) rfl ?_); refine sqL (some 48) Try.func165 #[.slice A0_1 l0_1.length c0_1, .slice A1_1 l1_1.length c1_1] ?_; (with_reducible refine (impl_absValsIn.calls k3 _ _ l0_1 _ _ l1_1 false _ ?side1 ?side2 ?side3 ?side4 A53.out).mono ?_); (case side1 => exact sqC (Kd.C_below HR0_1.out HB.out)); (case side2 => exact HC0_1.out); (case side3 => exact sqC (Kd.C_below HR1_1.out HB.out)); (case side4 => exact HC1_1.out); rintro e w78 ⟨rfl, hb⟩; refine ⟨_, rfl, ?_⟩; refine sqM2 BK484 BK485 hb ?_; clear BK484 BK485; intro BK484 BK485; replace HB := sqs HB hb; (try clear hb)))
         go_ret
         exact sqe HB
        subst c54
        have H1 : ((impl_absValsIn.f k3 l0_3 l1_3).bind fun t494 => (if t494 = true then ((impl_GapsIn.f k3 a0_4 l0_5 a1_4 l1_5).bind fun t495 => (some t495)) else (some false))) = some r := by rw [if_pos rfl] at H; exact H
        clear H
        have H := H1
        clear H1
        replace H := sqbi H
        obtain ⟨t494, A55, H⟩ := H
        replace H : (if t494 = true then ((impl_GapsIn.f k3 a0_4 l0_5 a1_4 l1_5).bind fun t495 => (some t495)) else (some false)) = some r := H
        rcases sqI (t494 = true) with c56 | c56
        ·replace c56 := Bool.eq_false_iff.mpr c56
         subst c56
         have H1 : (some false) = some r := by rw [if_neg (show ¬ (false = true) by decide)] at H; exact H
         clear H
         have H := H1
         clear H1
         obtain rfl := Option.some.inj H
         have hnb68 := NB484_485.out
         have hnc68 := NB485_484.out
         obtain ⟨hcz69_0, hcz69_1, hcz69_2, hcz69_3, hcz69_4, hcz69_5, hfz69_0, hfz69_1, hfz69_2, hfz69_3, hfz69_4, hfz69_5⟩ := sqc6 BK484
         obtain ⟨hcz70_0, hcz70_1, hcz70_2, hcz70_3, hcz70_4, hcz70_5, hfz70_0, hfz70_1, hfz70_2, hfz70_3, hfz70_4, hfz70_5⟩ := sqc6 BK485
         go_wp2_with (first | ((with_reducible refine gate_callee (f := 165) rfl ?_); refine sqL (some 48) Try.func165 #[.slice A0_1 l0_1.length c0_1, .slice A1_1 l1_1.length c1_1] ?_; (with_reducible refine (impl_absValsIn.calls k3 _ _ l0_1 _ _ l1_1 true _ ?side1 ?side2 ?side3 ?side4 A53.out).mono ?_); (case side1 => exact sqC (Kd.C_below HR0_1.out HB.out)); (case side2 => exact HC0_1.out); (case side3 => exact sqC (Kd.C_below HR1_1.out HB.out)); (case side4 => exact HC1_1.out); rintro e w71 ⟨rfl, hb⟩; refine ⟨_, rfl, ?_⟩; refine sqM2 BK484 BK485 hb ?_; clear BK484 BK485; intro BK484 BK485; replace HB := sqs HB hb; (try clear hb); obtain ⟨hcz72_0, hcz72_1, hcz72_2, hcz72_3, hcz72_4, hcz72_5, hfz72_0, hfz72_1, hfz72_2, hfz72_3, hfz72_4, hfz72_5⟩ := sqc6 BK484; obtain ⟨hcz73_0, hcz73_1, hcz73_2, hcz73_3, hcz73_4, hcz73_5, hfz73_0, hfz73_1, hfz73_2, hfz73_3, hfz73_4, hfz73_5⟩ := sqc6 BK485) | (go_at_call 165; (with_reducible refine (impl_absValsIn.calls k3 _ _ l0_3 _ _ l1_3 false _ ?side1 ?side2 ?side3 ?side4 A55.out).mono ?_); (case side1 => exact sqC (Kd.C_below HR0_3.out HB.out)); (case side2 => exact HC0_3.out); (case side3 => exact sqC (Kd.C_below HR1_3.out HB.out)); (case side4 => exact HC1_3.out); rintro e w74 ⟨rfl, hb⟩; refine sqM2 BK484 BK485 hb ?_; clear BK484 BK485; intro BK484 BK485; replace HB := sqs HB hb; (try clear hb)))
         go_ret
         exact sqe HB
        subst c56
        have H1 : ((impl_GapsIn.f k3 a0_4 l0_5 a1_4 l1_5).bind fun t495 => (some t495)) = some r := by rw [if_pos rfl] at H; exact H
        clear H
        have H := H1
        clear H1
        replace H := sqbi H
        obtain ⟨t495, A57, H⟩ := H
        replace H : (some t495) = some r := H
        obtain rfl := Option.some.inj H
        have hnb58 := NB484_485.out
        have hnc58 := NB485_484.out
        obtain ⟨hcz59_0, hcz59_1, hcz59_2, hcz59_3, hcz59_4, hcz59_5, hfz59_0, hfz59_1, hfz59_2, hfz59_3, hfz59_4, hfz59_5⟩ := sqc6 BK484
        obtain ⟨hcz60_0, hcz60_1, hcz60_2, hcz60_3, hcz60_4, hcz60_5, hfz60_0, hfz60_1, hfz60_2, hfz60_3, hfz60_4, hfz60_5⟩ := sqc6 BK485
        go_wp2_with (first | ((with_reducible refine gate_callee (f := 165) rfl ?_); refine sqL (some 48) Try.func165 #[.slice A0_1 l0_1.length c0_1, .slice A1_1 l1_1.length c1_1] ?_; (with_reducible refine (impl_absValsIn.calls k3 _ _ l0_1 _ _ l1_1 true _ ?side1 ?side2 ?side3 ?side4 A53.out).mono ?_); (case side1 => exact sqC (Kd.C_below HR0_1.out HB.out)); (case side2 => exact HC0_1.out); (case side3 => exact sqC (Kd.C_below HR1_1.out HB.out)); (case side4 => exact HC1_1.out); rintro e w61 ⟨rfl, hb⟩; refine ⟨_, rfl, ?_⟩; refine sqM2 BK484 BK485 hb ?_; clear BK484 BK485; intro BK484 BK485; replace HB := sqs HB hb; (try clear hb); obtain ⟨hcz62_0, hcz62_1, hcz62_2, hcz62_3, hcz62_4, hcz62_5, hfz62_0, hfz62_1, hfz62_2, hfz62_3, hfz62_4, hfz62_5⟩ := sqc6 BK484; obtain ⟨hcz63_0, hcz63_1, hcz63_2, hcz63_3, hcz63_4, hcz63_5, hfz63_0, hfz63_1, hfz63_2, hfz63_3, hfz63_4, hfz63_5⟩ := sqc6 BK485) | (go_at_call 165; (with_reducible refine (impl_absValsIn.calls k3 _ _ l0_3 _ _ l1_3 true _ ?side1 ?side2 ?side3 ?side4 A55.out).mono ?_); (case side1 => exact sqC (Kd.C_below HR0_3.out HB.out)); (case side2 => exact HC0_3.out); (case side3 => exact sqC (Kd.C_below HR1_3.out HB.out)); (case side4 => exact HC1_3.out); rintro e w64 ⟨rfl, hb⟩; refine sqM2 BK484 BK485 hb ?_; clear BK484 BK485; intro BK484 BK485; replace HB := sqs HB hb; (try clear hb); obtain ⟨hcz65_0, hcz65_1, hcz65_2, hcz65_3, hcz65_4, hcz65_5, hfz65_0, hfz65_1, hfz65_2, hfz65_3, hfz65_4, hfz65_5⟩ := sqc6 BK484; obtain ⟨hcz66_0, hcz66_1, hcz66_2, hcz66_3, hcz66_4, hcz66_5, hfz66_0, hfz66_1, hfz66_2, hfz66_3, hfz66_4, hfz66_5⟩ := sqc6 BK485) | (go_at_call 30; (with_reducible refine (impl_GapsIn.calls k3 a0_4 _ _ l0_5 a1_4 _ _ l1_5 t495 _ ?side1 ?side2 ?side3 ?side4 A57.out).mono ?_); (case side1 => exact sqC (Kd.C_below HR0_5.out HB.out)); (case side2 => exact HC0_5.out); (case side3 => exact sqC (Kd.C_below HR1_5.out HB.out)); (case side4 => exact HC1_5.out); rintro e w67 ⟨rfl, hb⟩; refine sqM2 BK484 BK485 hb ?_; clear BK484 BK485; intro BK484 BK485; replace HB := sqs HB hb; (try clear hb)))
        go_ret
        exact sqe HB
       have c33b0 := decide_eq_true c33
       clear c33
       replace H := sqi H
       rcases H with ⟨c34, H⟩ | ⟨c34, H⟩
       ·exact absurd H (by simp)
       have c34b0 := decide_eq_true c34
       clear c34
       replace H := sqi H
       rcases H with ⟨c35, H⟩ | ⟨c35, H⟩
       ·exact absurd H (by simp)
       have c35b0 := decide_eq_true c35
       clear c35
       replace H := sqi H
       rcases H with ⟨c36, H⟩ | ⟨c36, H⟩
       ·exact absurd H (by simp)
       have c36b0 := decide_eq_true c36
       clear c36
       replace H := sqbi H
       obtain ⟨t492, A37, H⟩ := H
       replace H : (if t492 = true then (impl_AbsIn.l0 k3 l0_2 (l0_2.length : Int) (wrap64 (x30_3 + 1)) true l0_1 l0_2 l0_3 a0_4 l0_5 a1_0 l1_1 l1_2 l1_3 a1_4 l1_5) else (some false)) = some r := H
       rcases sqI (t492 = true) with c38 | c38
       ·replace c38 := Bool.eq_false_iff.mpr c38
        subst c38
        have H1 : (some false) = some r := by rw [if_neg (show ¬ (false = true) by decide)] at H; exact H
        clear H
        have H := H1
        clear H1
        obtain rfl := Option.some.inj H
        have p489 : 0 ≤ (x30_3 : Int) := sqd
        have q489 : x30_3 < (l0_2.length : Int) := sqd
        obtain ⟨ad489, A489_1, c489_1, e489, hx489_0, hx489_1, hx489_2, hx489_3, hx489_4, hx489_5, hl489_1, hi489_1⟩ := at_T132 HR0_2.out x30_3 p489 q489
        cases e489
        replace hx489_0 := sqa HB hx489_0
        replace hx489_1 := sqa HB hx489_1
        replace hx489_2 := sqa HB hx489_2
        replace hx489_3 := sqa HB hx489_3
        replace hx489_4 := sqa HB hx489_4
        replace hx489_5 := sqa HB hx489_5
        have HR489_1 := Aside0.mk hi489_1
        have HC489_1 := Aside0.mk hl489_1
        clear hi489_1 hl489_1
        replace p489 := eq_true p489
        replace q489 := eq_true q489
        try go_wp2_with (first | ((with_reducible refine gate_dst (N := 6) rfl ?_); refine sqx 6 #[.bool false, .slice none 0 0, .int .i64 0, .int .i64 0, .int .i64 0, .int .i64 0] 132 ?_; intro gb490 hg w46 hbox hb; have BK490 := Aside0.mk hbox; have GW490 := sqg HB hg; have GE490 := sqg HB hg; have NB484_490 := sqn BK484 hg; have NB490_484 := sqm BK484 hg; have NB485_490 := sqn BK485 hg; have NB490_485 := sqm BK485 hg; refine sqM2 BK484 BK485 hb ?_; clear BK484 BK485; intro BK484 BK485; replace HB := sqs HB hb; clear hb hbox hg; have hnb47 := NB490_484.out; have hnc47 := NB484_490.out; have hnb48 := NB490_485.out; have hnc48 := NB485_490.out; obtain ⟨hcz49_0, hcz49_1, hcz49_2, hcz49_3, hcz49_4, hcz49_5, hfz49_0, hfz49_1, hfz49_2, hfz49_3, hfz49_4, hfz49_5⟩ := sqc6 BK490))
        have n0_ : Aside0 (((((((w46.setCell ⟨gb490, 0, none⟩ (.bool ((rd_T132 l0_2 x30_3).f0))).setCell ⟨gb490, 1, none⟩ (.slice A489_1 ((rd_T132 l0_2 x30_3).f1).length c489_1)).setCell ⟨gb490, 2, none⟩ (.int .i64 ((rd_T132 l0_2 x30_3).f2.f0))).setCell ⟨gb490, 3, none⟩ (.int .i64 ((rd_T132 l0_2 x30_3).f2.f1))).setCell ⟨gb490, 4, none⟩ (.int .i64 ((rd_T132 l0_2 x30_3).f2.f2))).setCell ⟨gb490, 5, none⟩ (.int .i64 ((rd_T132 l0_2 x30_3).f2.f3))).heap[gb484]? = some (.cells #[.bool true, .slice A0_1 l0_1.length c0_1, .slice (some ad489) l0_2.length c0_2, .slice A0_3 l0_3.length c0_3, .int .i64 a0_4, .slice A0_5 l0_5.length c0_5] 78 (0, 0))) := ⟨by refine sqt ?_; refine blk_far ?_ NB484_490.out _; refine sqt ?_; refine blk_far ?_ NB484_490.out _; refine sqt ?_; refine blk_far ?_ NB484_490.out _; refine sqt ?_; refine blk_far ?_ NB484_490.out _; refine sqt ?_; refine blk_far ?_ NB484_490.out _; refine sqt ?_; refine blk_far ?_ NB484_490.out _; refine sqt ?_; exact BK484.out⟩
        have n1_ : Aside0 (((((((w46.setCell ⟨gb490, 0, none⟩ (.bool ((rd_T132 l0_2 x30_3).f0))).setCell ⟨gb490, 1, none⟩ (.slice A489_1 ((rd_T132 l0_2 x30_3).f1).length c489_1)).setCell ⟨gb490, 2, none⟩ (.int .i64 ((rd_T132 l0_2 x30_3).f2.f0))).setCell ⟨gb490, 3, none⟩ (.int .i64 ((rd_T132 l0_2 x30_3).f2.f1))).setCell ⟨gb490, 4, none⟩ (.int .i64 ((rd_T132 l0_2 x30_3).f2.f2))).setCell ⟨gb490, 5, none⟩ (.int .i64 ((rd_T132 l0_2 x30_3).f2.f3))).heap[gb485]? = some (.cells #[.bool a1_0, .slice A1_1 l1_1.length c1_1, .slice A1_2 l1_2.length c1_2, .slice A1_3 l1_3.length c1_3, .int .i64 a1_4, .slice A1_5 l1_5.length c1_5] 78 (0, 0))) := ⟨by refine sqt ?_; refine blk_far ?_ NB485_490.out _; refine sqt ?_; refine blk_far ?_ NB485_490.out _; refine sqt ?_; refine blk_far ?_ NB485_490.out _; refine sqt ?_; refine blk_far ?_ NB485_490.out _; refine sqt ?_; refine blk_far ?_ NB485_490.out _; refine sqt ?_; refine blk_far ?_ NB485_490.out _; refine sqt ?_; exact BK485.out⟩
        have n2_ : Aside0 (((((((w46.setCell ⟨gb490, 0, none⟩ (.bool ((rd_T132 l0_2 x30_3).f0))).setCell ⟨gb490, 1, none⟩ (.slice A489_1 ((rd_T132 l0_2 x30_3).f1).length c489_1)).setCell ⟨gb490, 2, none⟩ (.int .i64 ((rd_T132 l0_2 x30_3).f2.f0))).setCell ⟨gb490, 3, none⟩ (.int .i64 ((rd_T132 l0_2 x30_3).f2.f1))).setCell ⟨gb490, 4, none⟩ (.int .i64 ((rd_T132 l0_2 x30_3).f2.f2))).setCell ⟨gb490, 5, none⟩ (.int .i64 ((rd_T132 l0_2 x30_3).f2.f3))).heap[gb490]? = some (.cells #[.bool ((rd_T132 l0_2 x30_3).f0), .slice A489_1 ((rd_T132 l0_2 x30_3).f1).length c489_1, .int .i64 ((rd_T132 l0_2 x30_3).f2.f0), .int .i64 ((rd_T132 l0_2 x30_3).f2.f1), .int .i64 ((rd_T132 l0_2 x30_3).f2.f2), .int .i64 ((rd_T132 l0_2 x30_3).f2.f3)] 132 (0, 0))) := ⟨by refine sqt ?_; refine blk_put (cs := #[.bool ((rd_T132 l0_2 x30_3).f0), .slice A489_1 ((rd_T132 l0_2 x30_3).f1).length c489_1, .int .i64 ((rd_T132 l0_2 x30_3).f2.f0), .int .i64 ((rd_T132 l0_2 x30_3).f2.f1), .int .i64 ((rd_T132 l0_2 x30_3).f2.f2), .int .i64 0]) ?_ 5 _ rfl; refine sqt ?_; refine blk_put (cs := #[.bool ((rd_T132 l0_2 x30_3).f0), .slice A489_1 ((rd_T132 l0_2 x30_3).f1).length c489_1, .int .i64 ((rd_T132 l0_2 x30_3).f2.f0), .int .i64 ((rd_T132 l0_2 x30_3).f2.f1), .int .i64 0, .int .i64 0]) ?_ 4 _ rfl; refine sqt ?_; refine blk_put (cs := #[.bool ((rd_T132 l0_2 x30_3).f0), .slice A489_1 ((rd_T132 l0_2 x30_3).f1).length c489_1, .int .i64 ((rd_T132 l0_2 x30_3).f2.f0), .int .i64 0, .int .i64 0, .int .i64 0]) ?_ 3 _ rfl; refine sqt ?_; refine blk_put (cs := #[.bool ((rd_T132 l0_2 x30_3).f0), .slice A489_1 ((rd_T132 l0_2 x30_3).f1).length c489_1, .int .i64 0, .int .i64 0, .int .i64 0, .int .i64 0]) ?_ 2 _ rfl; refine sqt ?_; refine blk_put (cs := #[.bool ((rd_T132 l0_2 x30_3).f0), .slice none 0 0, .int .i64 0, .int .i64 0, .int .i64 0, .int .i64 0]) ?_ 1 _ rfl; refine sqt ?_; refine blk_put (cs := #[.bool false, .slice none 0 0, .int .i64 0, .int .i64 0, .int .i64 0, .int .i64 0]) ?_ 0 _ rfl; refine sqt ?_; exact BK490.out⟩
        have n3_ : Aside0 (Below w.heap.size w ((((((w46.setCell ⟨gb490, 0, none⟩ (.bool ((rd_T132 l0_2 x30_3).f0))).setCell ⟨gb490, 1, none⟩ (.slice A489_1 ((rd_T132 l0_2 x30_3).f1).length c489_1)).setCell ⟨gb490, 2, none⟩ (.int .i64 ((rd_T132 l0_2 x30_3).f2.f0))).setCell ⟨gb490, 3, none⟩ (.int .i64 ((rd_T132 l0_2 x30_3).f2.f1))).setCell ⟨gb490, 4, none⟩ (.int .i64 ((rd_T132 l0_2 x30_3).f2.f2))).setCell ⟨gb490, 5, none⟩ (.int .i64 ((rd_T132 l0_2 x30_3).f2.f3)))) := sqh HB
        (try clear BK484)
        (try clear BK485)
        (try clear BK490)
        (try clear HB)
        generalize ((((((w46.setCell ⟨gb490, 0, none⟩ (.bool ((rd_T132 l0_2 x30_3).f0))).setCell ⟨gb490, 1, none⟩ (.slice A489_1 ((rd_T132 l0_2 x30_3).f1).length c489_1)).setCell ⟨gb490, 2, none⟩ (.int .i64 ((rd_T132 l0_2 x30_3).f2.f0))).setCell ⟨gb490, 3, none⟩ (.int .i64 ((rd_T132 l0_2 x30_3).f2.f1))).setCell ⟨gb490, 4, none⟩ (.int .i64 ((rd_T132 l0_2 x30_3).f2.f2))).setCell ⟨gb490, 5, none⟩ (.int .i64 ((rd_T132 l0_2 x30_3).f2.f3))) = w50 at n0_ n1_ n2_ n3_ ⊢
        have BK484 := n0_
        have BK485 := n1_
        have BK490 := n2_
        have HB := n3_
        clear n0_ n1_ n2_ n3_
        replace BK484 := Aside0.mk (blk_drew BK484.out)
        replace BK485 := Aside0.mk (blk_drew BK485.out)
        replace BK490 := Aside0.mk (blk_drew BK490.out)
        replace HB := Aside0.mk (below_drew1 HB.out)
        have p491 : 0 ≤ (x30_3 : Int) := sqd
        have q491 : x30_3 < (l1_2.length : Int) := sqd
        obtain ⟨ad491, A491_1, c491_1, e491, hx491_0, hx491_1, hx491_2, hx491_3, hx491_4, hx491_5, hl491_1, hi491_1⟩ := at_T132 HR1_2.out x30_3 p491 q491
        have hw491_5 := hx491_5
        have hw491_4 := hx491_4
        have hw491_3 := hx491_3
        have hw491_2 := hx491_2
        have hw491_1 := hx491_1
        have hw491_0 := hx491_0
        cases e491
        replace hx491_0 := sqa HB hx491_0
        replace hx491_1 := sqa HB hx491_1
        replace hx491_2 := sqa HB hx491_2
        replace hx491_3 := sqa HB hx491_3
        replace hx491_4 := sqa HB hx491_4
        replace hx491_5 := sqa HB hx491_5
        have HR491_1 := Aside0.mk hi491_1
        have HC491_1 := Aside0.mk hl491_1
        clear hi491_1 hl491_1
        replace p491 := eq_true p491
        replace q491 := eq_true q491
        refine start_ (n := 8) (S := fun w' => w'.cell? ⟨gb490, 0, none⟩ = some (.bool ((rd_T132 l0_2 x30_3).f0)) ∧ w'.cell? ⟨gb490, 1, none⟩ = some (.slice A489_1 ((rd_T132 l0_2 x30_3).f1).length c489_1) ∧ w'.cell? ⟨gb490, 2, none⟩ = some (.int .i64 ((rd_T132 l0_2 x30_3).f2.f0)) ∧ w'.cell? ⟨gb490, 3, none⟩ = some (.int .i64 ((rd_T132 l0_2 x30_3).f2.f1)) ∧ w'.cell? ⟨gb490, 4, none⟩ = some (.int .i64 ((rd_T132 l0_2 x30_3).f2.f2)) ∧ w'.cell? ⟨gb490, 5, none⟩ = some (.int .i64 ((rd_T132 l0_2 x30_3).f2.f3)) ∧ w'.cell? ⟨gb485, 0, none⟩ = some (.bool a1_0) ∧ w'.cell? ⟨gb485, 1, none⟩ = some (.slice A1_1 l1_1.length c1_1) ∧ w'.cell? ⟨gb485, 2, none⟩ = some (.slice (some ad491) l1_2.length c1_2) ∧ w'.cell? ⟨gb485, 3, none⟩ = some (.slice A1_3 l1_3.length c1_3) ∧ w'.cell? ⟨gb485, 4, none⟩ = some (.int .i64 a1_4) ∧ w'.cell? ⟨gb485, 5, none⟩ = some (.slice A1_5 l1_5.length c1_5) ∧ w'.cell? (ad491.add ((x30_3).toNat * 6)) = some (.bool ((rd_T132 l1_2 x30_3).f0)) ∧ w'.cell? ⟨(ad491.add ((x30_3).toNat * 6)).block, (ad491.add ((x30_3).toNat * 6)).off + 1, none⟩ = some (.slice A491_1 ((rd_T132 l1_2 x30_3).f1).length c491_1) ∧ w'.cell? ⟨(ad491.add ((x30_3).toNat * 6)).block, (ad491.add ((x30_3).toNat * 6)).off + 2, none⟩ = some (.int .i64 ((rd_T132 l1_2 x30_3).f2.f0)) ∧ w'.cell? ⟨(ad491.add ((x30_3).toNat * 6)).block, (ad491.add ((x30_3).toNat * 6)).off + 3, none⟩ = some (.int .i64 ((rd_T132 l1_2 x30_3).f2.f1)) ∧ w'.cell? ⟨(ad491.add ((x30_3).toNat * 6)).block, (ad491.add ((x30_3).toNat * 6)).off + 4, none⟩ = some (.int .i64 ((rd_T132 l1_2 x30_3).f2.f2)) ∧ w'.cell? ⟨(ad491.add ((x30_3).toNat * 6)).block, (ad491.add ((x30_3).toNat * 6)).off + 5, none⟩ = some (.int .i64 ((rd_T132 l1_2 x30_3).f2.f3))) (ds := []) #[false, false, false, false, false, false, false, false] (by kernel_rfl) rfl rfl ⟨(blk_cell BK490.out 0).trans rfl, (blk_cell BK490.out 1).trans rfl, (blk_cell BK490.out 2).trans rfl, (blk_cell BK490.out 3).trans rfl, (blk_cell BK490.out 4).trans rfl, (blk_cell BK490.out 5).trans rfl, (blk_cell BK485.out 0).trans rfl, (blk_cell BK485.out 1).trans rfl, (blk_cell BK485.out 2).trans rfl, (blk_cell BK485.out 3).trans rfl, (blk_cell BK485.out 4).trans rfl, (blk_cell BK485.out 5).trans rfl, (sqa HB hw491_0 :), (sqa HB hw491_1 :), (sqa HB hw491_2 :), (sqa HB hw491_3 :), (sqa HB hw491_4 :), (sqa HB hw491_5 :)⟩ (fun hHeld => ?_); refine with_tabW impl_AbsIn.tab10 impl_AbsIn.bits10 (fun HT_ HW_ => ?_)
        generalize w50.drew = w51 at BK484 BK485 BK490 HB HR491_1 hx491_0 hx491_1 hx491_2 hx491_3 hx491_4 hx491_5 hHeld ⊢
        refine sqp HT_ 1 36 ?_
        refine sqp HT_ 3 38 ?_
        refine sqw HT_ HW_ 0 35 hHeld ?_
        refine sqw HT_ HW_ 2 37 hHeld ?_
        refine sqp HT_ 4 39 ?_
        refine sqw HT_ HW_ 5 40 hHeld ?_
        refine sqo HT_ 6 41 (fun K hK => ?_)
        refine sqG Try.func164 #[.agg #[.bool ((rd_T132 l0_2 x30_3).f0), .slice A489_1 ((rd_T132 l0_2 x30_3).f1).length c489_1, .int .i64 ((rd_T132 l0_2 x30_3).f2.f0), .int .i64 ((rd_T132 l0_2 x30_3).f2.f1), .int .i64 ((rd_T132 l0_2 x30_3).f2.f2), .int .i64 ((rd_T132 l0_2 x30_3).f2.f3)], .agg #[.bool ((rd_T132 l1_2 x30_3).f0), .slice A491_1 ((rd_T132 l1_2 x30_3).f1).length c491_1, .int .i64 ((rd_T132 l1_2 x30_3).f2.f0), .int .i64 ((rd_T132 l1_2 x30_3).f2.f1), .int .i64 ((rd_T132 l1_2 x30_3).f2.f2), .int .i64 ((rd_T132 l1_2 x30_3).f2.f3)]] ?_
        with_reducible refine (impl_refIn.calls k3 ((rd_T132 l0_2 x30_3).f0) _ _ ((rd_T132 l0_2 x30_3).f1) ((rd_T132 l0_2 x30_3).f2.f0) ((rd_T132 l0_2 x30_3).f2.f1) ((rd_T132 l0_2 x30_3).f2.f2) ((rd_T132 l0_2 x30_3).f2.f3) ((rd_T132 l1_2 x30_3).f0) _ _ ((rd_T132 l1_2 x30_3).f1) ((rd_T132 l1_2 x30_3).f2.f0) ((rd_T132 l1_2 x30_3).f2.f1) ((rd_T132 l1_2 x30_3).f2.f2) ((rd_T132 l1_2 x30_3).f2.f3) false _ ?side1 ?side2 ?side3 ?side4 A37.out).mono ?_
        (case side1 => exact sqC (Kd.C_below HR489_1.out HB.out))
        (case side2 => exact HC489_1.out)
        (case side3 => exact sqC (Kd.C_below HR491_1.out HB.out))
        (case side4 => exact HC491_1.out)
        rintro e w52 ⟨rfl, hb⟩
        refine ⟨_, rfl, ?_⟩
        refine sqM3 BK484 BK485 BK490 hb ?_; clear BK484 BK485 BK490; intro BK484 BK485 BK490
        replace HB := sqs HB hb
        (try clear hb)
        refine hK.out _ _ ⟨(blk_cell BK490.out 0).trans rfl, (blk_cell BK490.out 1).trans rfl, (blk_cell BK490.out 2).trans rfl, (blk_cell BK490.out 3).trans rfl, (blk_cell BK490.out 4).trans rfl, (blk_cell BK490.out 5).trans rfl, (blk_cell BK485.out 0).trans rfl, (blk_cell BK485.out 1).trans rfl, (blk_cell BK485.out 2).trans rfl, (blk_cell BK485.out 3).trans rfl, (blk_cell BK485.out 4).trans rfl, (blk_cell BK485.out 5).trans rfl, (sqa HB hw491_0 :), (sqa HB hw491_1 :), (sqa HB hw491_2 :), (sqa HB hw491_3 :), (sqa HB hw491_4 :), (sqa HB hw491_5 :)⟩ (fun hHeld => ?_)
        clear hK K
        refine sqnm ?_
        refine sqp HT_ 7 42 ?_
        refine done_ (done_of HT_.out (by kernel_rfl)) ?_
        try go_wp2
        go_ret
        exact sqe HB
       subst c38
       have H1 : (impl_AbsIn.l0 k3 l0_2 (l0_2.length : Int) (wrap64 (x30_3 + 1)) true l0_1 l0_2 l0_3 a0_4 l0_5 a1_0 l1_1 l1_2 l1_3 a1_4 l1_5) = some r := by rw [if_pos rfl] at H; exact H
       clear H
       have H := H1
       clear H1
       have H' := Aside0.mk H
       clear H
       have p489 : 0 ≤ (x30_3 : Int) := sqd
       have q489 : x30_3 < (l0_2.length : Int) := sqd
       obtain ⟨ad489, A489_1, c489_1, e489, hx489_0, hx489_1, hx489_2, hx489_3, hx489_4, hx489_5, hl489_1, hi489_1⟩ := at_T132 HR0_2.out x30_3 p489 q489
       cases e489
       replace hx489_0 := sqa HB hx489_0
       replace hx489_1 := sqa HB hx489_1
       replace hx489_2 := sqa HB hx489_2
       replace hx489_3 := sqa HB hx489_3
       replace hx489_4 := sqa HB hx489_4
       replace hx489_5 := sqa HB hx489_5
       have HR489_1 := Aside0.mk hi489_1
       have HC489_1 := Aside0.mk hl489_1
       clear hi489_1 hl489_1
       replace p489 := eq_true p489
       replace q489 := eq_true q489
       try go_wp2_with (first | ((with_reducible refine gate_dst (N := 6) rfl ?_); refine sqx 6 #[.bool false, .slice none 0 0, .int .i64 0, .int .i64 0, .int .i64 0, .int .i64 0] 132 ?_; intro gb490 hg w39 hbox hb; have BK490 := Aside0.mk hbox; have GW490 := sqg HB hg; have GE490 := sqg HB hg; have NB484_490 := sqn BK484 hg; have NB490_484 := sqm BK484 hg; have NB485_490 := sqn BK485 hg; have NB490_485 := sqm BK485 hg; refine sqM2 BK484 BK485 hb ?_; clear BK484 BK485; intro BK484 BK485; replace HB := sqs HB hb; clear hb hbox hg; have hnb40 := NB490_484.out; have hnc40 := NB484_490.out; have hnb41 := NB490_485.out; have hnc41 := NB485_490.out; obtain ⟨hcz42_0, hcz42_1, hcz42_2, hcz42_3, hcz42_4, hcz42_5, hfz42_0, hfz42_1, hfz42_2, hfz42_3, hfz42_4, hfz42_5⟩ := sqc6 BK490))
       have n0_ : Aside0 (((((((w39.setCell ⟨gb490, 0, none⟩ (.bool ((rd_T132 l0_2 x30_3).f0))).setCell ⟨gb490, 1, none⟩ (.slice A489_1 ((rd_T132 l0_2 x30_3).f1).length c489_1)).setCell ⟨gb490, 2, none⟩ (.int .i64 ((rd_T132 l0_2 x30_3).f2.f0))).setCell ⟨gb490, 3, none⟩ (.int .i64 ((rd_T132 l0_2 x30_3).f2.f1))).setCell ⟨gb490, 4, none⟩ (.int .i64 ((rd_T132 l0_2 x30_3).f2.f2))).setCell ⟨gb490, 5, none⟩ (.int .i64 ((rd_T132 l0_2 x30_3).f2.f3))).heap[gb484]? = some (.cells #[.bool true, .slice A0_1 l0_1.length c0_1, .slice (some ad489) l0_2.length c0_2, .slice A0_3 l0_3.length c0_3, .int .i64 a0_4, .slice A0_5 l0_5.length c0_5] 78 (0, 0))) := ⟨by refine sqt ?_; refine blk_far ?_ NB484_490.out _; refine sqt ?_; refine blk_far ?_ NB484_490.out _; refine sqt ?_; refine blk_far ?_ NB484_490.out _; refine sqt ?_; refine blk_far ?_ NB484_490.out _; refine sqt ?_; refine blk_far ?_ NB484_490.out _; refine sqt ?_; refine blk_far ?_ NB484_490.out _; refine sqt ?_; exact BK484.out⟩
       have n1_ : Aside0 (((((((w39.setCell ⟨gb490, 0, none⟩ (.bool ((rd_T132 l0_2 x30_3).f0))).setCell ⟨gb490, 1, none⟩ (.slice A489_1 ((rd_T132 l0_2 x30_3).f1).length c489_1)).setCell ⟨gb490, 2, none⟩ (.int .i64 ((rd_T132 l0_2 x30_3).f2.f0))).setCell ⟨gb490, 3, none⟩ (.int .i64 ((rd_T132 l0_2 x30_3).f2.f1))).setCell ⟨gb490, 4, none⟩ (.int .i64 ((rd_T132 l0_2 x30_3).f2.f2))).setCell ⟨gb490, 5, none⟩ (.int .i64 ((rd_T132 l0_2 x30_3).f2.f3))).heap[gb485]? = some (.cells #[.bool a1_0, .slice A1_1 l1_1.length c1_1, .slice A1_2 l1_2.length c1_2, .slice A1_3 l1_3.length c1_3, .int .i64 a1_4, .slice A1_5 l1_5.length c1_5] 78 (0, 0))) := ⟨by refine sqt ?_; refine blk_far ?_ NB485_490.out _; refine sqt ?_; refine blk_far ?_ NB485_490.out _; refine sqt ?_; refine blk_far ?_ NB485_490.out _; refine sqt ?_; refine blk_far ?_ NB485_490.out _; refine sqt ?_; refine blk_far ?_ NB485_490.out _; refine sqt ?_; refine blk_far ?_ NB485_490.out _; refine sqt ?_; exact BK485.out⟩
       have n2_ : Aside0 (((((((w39.setCell ⟨gb490, 0, none⟩ (.bool ((rd_T132 l0_2 x30_3).f0))).setCell ⟨gb490, 1, none⟩ (.slice A489_1 ((rd_T132 l0_2 x30_3).f1).length c489_1)).setCell ⟨gb490, 2, none⟩ (.int .i64 ((rd_T132 l0_2 x30_3).f2.f0))).setCell ⟨gb490, 3, none⟩ (.int .i64 ((rd_T132 l0_2 x30_3).f2.f1))).setCell ⟨gb490, 4, none⟩ (.int .i64 ((rd_T132 l0_2 x30_3).f2.f2))).setCell ⟨gb490, 5, none⟩ (.int .i64 ((rd_T132 l0_2 x30_3).f2.f3))).heap[gb490]? = some (.cells #[.bool ((rd_T132 l0_2 x30_3).f0), .slice A489_1 ((rd_T132 l0_2 x30_3).f1).length c489_1, .int .i64 ((rd_T132 l0_2 x30_3).f2.f0), .int .i64 ((rd_T132 l0_2 x30_3).f2.f1), .int .i64 ((rd_T132 l0_2 x30_3).f2.f2), .int .i64 ((rd_T132 l0_2 x30_3).f2.f3)] 132 (0, 0))) := ⟨by refine sqt ?_; refine blk_put (cs := #[.bool ((rd_T132 l0_2 x30_3).f0), .slice A489_1 ((rd_T132 l0_2 x30_3).f1).length c489_1, .int .i64 ((rd_T132 l0_2 x30_3).f2.f0), .int .i64 ((rd_T132 l0_2 x30_3).f2.f1), .int .i64 ((rd_T132 l0_2 x30_3).f2.f2), .int .i64 0]) ?_ 5 _ rfl; refine sqt ?_; refine blk_put (cs := #[.bool ((rd_T132 l0_2 x30_3).f0), .slice A489_1 ((rd_T132 l0_2 x30_3).f1).length c489_1, .int .i64 ((rd_T132 l0_2 x30_3).f2.f0), .int .i64 ((rd_T132 l0_2 x30_3).f2.f1), .int .i64 0, .int .i64 0]) ?_ 4 _ rfl; refine sqt ?_; refine blk_put (cs := #[.bool ((rd_T132 l0_2 x30_3).f0), .slice A489_1 ((rd_T132 l0_2 x30_3).f1).length c489_1, .int .i64 ((rd_T132 l0_2 x30_3).f2.f0), .int .i64 0, .int .i64 0, .int .i64 0]) ?_ 3 _ rfl; refine sqt ?_; refine blk_put (cs := #[.bool ((rd_T132 l0_2 x30_3).f0), .slice A489_1 ((rd_T132 l0_2 x30_3).f1).length c489_1, .int .i64 0, .int .i64 0, .int .i64 0, .int .i64 0]) ?_ 2 _ rfl; refine sqt ?_; refine blk_put (cs := #[.bool ((rd_T132 l0_2 x30_3).f0), .slice none 0 0, .int .i64 0, .int .i64 0, .int .i64 0, .int .i64 0]) ?_ 1 _ rfl; refine sqt ?_; refine blk_put (cs := #[.bool false, .slice none 0 0, .int .i64 0, .int .i64 0, .int .i64 0, .int .i64 0]) ?_ 0 _ rfl; refine sqt ?_; exact BK490.out⟩
       have n3_ : Aside0 (Below w.heap.size w ((((((w39.setCell ⟨gb490, 0, none⟩ (.bool ((rd_T132 l0_2 x30_3).f0))).setCell ⟨gb490, 1, none⟩ (.slice A489_1 ((rd_T132 l0_2 x30_3).f1).length c489_1)).setCell ⟨gb490, 2, none⟩ (.int .i64 ((rd_T132 l0_2 x30_3).f2.f0))).setCell ⟨gb490, 3, none⟩ (.int .i64 ((rd_T132 l0_2 x30_3).f2.f1))).setCell ⟨gb490, 4, none⟩ (.int .i64 ((rd_T132 l0_2 x30_3).f2.f2))).setCell ⟨gb490, 5, none⟩ (.int .i64 ((rd_T132 l0_2 x30_3).f2.f3)))) := sqh HB
       (try clear BK484)
       (try clear BK485)
       (try clear BK490)
       (try clear HB)
       generalize ((((((w39.setCell ⟨gb490, 0, none⟩ (.bool ((rd_T132 l0_2 x30_3).f0))).setCell ⟨gb490, 1, none⟩ (.slice A489_1 ((rd_T132 l0_2 x30_3).f1).length c489_1)).setCell ⟨gb490, 2, none⟩ (.int .i64 ((rd_T132 l0_2 x30_3).f2.f0))).setCell ⟨gb490, 3, none⟩ (.int .i64 ((rd_T132 l0_2 x30_3).f2.f1))).setCell ⟨gb490, 4, none⟩ (.int .i64 ((rd_T132 l0_2 x30_3).f2.f2))).setCell ⟨gb490, 5, none⟩ (.int .i64 ((rd_T132 l0_2 x30_3).f2.f3))) = w43 at n0_ n1_ n2_ n3_ ⊢
       have BK484 := n0_
       have BK485 := n1_
       have BK490 := n2_
       have HB := n3_
       clear n0_ n1_ n2_ n3_
       replace BK484 := Aside0.mk (blk_drew BK484.out)
       replace BK485 := Aside0.mk (blk_drew BK485.out)
       replace BK490 := Aside0.mk (blk_drew BK490.out)
       replace HB := Aside0.mk (below_drew1 HB.out)
       have p491 : 0 ≤ (x30_3 : Int) := sqd
       have q491 : x30_3 < (l1_2.length : Int) := sqd
       obtain ⟨ad491, A491_1, c491_1, e491, hx491_0, hx491_1, hx491_2, hx491_3, hx491_4, hx491_5, hl491_1, hi491_1⟩ := at_T132 HR1_2.out x30_3 p491 q491
       have hw491_5 := hx491_5
       have hw491_4 := hx491_4
       have hw491_3 := hx491_3
       have hw491_2 := hx491_2
       have hw491_1 := hx491_1
       have hw491_0 := hx491_0
       cases e491
       replace hx491_0 := sqa HB hx491_0
       replace hx491_1 := sqa HB hx491_1
       replace hx491_2 := sqa HB hx491_2
       replace hx491_3 := sqa HB hx491_3
       replace hx491_4 := sqa HB hx491_4
       replace hx491_5 := sqa HB hx491_5
       have HR491_1 := Aside0.mk hi491_1
       have HC491_1 := Aside0.mk hl491_1
       clear hi491_1 hl491_1
       replace p491 := eq_true p491
       replace q491 := eq_true q491
       refine start_ (n := 8) (S := fun w' => w'.cell? ⟨gb490, 0, none⟩ = some (.bool ((rd_T132 l0_2 x30_3).f0)) ∧ w'.cell? ⟨gb490, 1, none⟩ = some (.slice A489_1 ((rd_T132 l0_2 x30_3).f1).length c489_1) ∧ w'.cell? ⟨gb490, 2, none⟩ = some (.int .i64 ((rd_T132 l0_2 x30_3).f2.f0)) ∧ w'.cell? ⟨gb490, 3, none⟩ = some (.int .i64 ((rd_T132 l0_2 x30_3).f2.f1)) ∧ w'.cell? ⟨gb490, 4, none⟩ = some (.int .i64 ((rd_T132 l0_2 x30_3).f2.f2)) ∧ w'.cell? ⟨gb490, 5, none⟩ = some (.int .i64 ((rd_T132 l0_2 x30_3).f2.f3)) ∧ w'.cell? ⟨gb485, 0, none⟩ = some (.bool a1_0) ∧ w'.cell? ⟨gb485, 1, none⟩ = some (.slice A1_1 l1_1.length c1_1) ∧ w'.cell? ⟨gb485, 2, none⟩ = some (.slice (some ad491) l1_2.length c1_2) ∧ w'.cell? ⟨gb485, 3, none⟩ = some (.slice A1_3 l1_3.length c1_3) ∧ w'.cell? ⟨gb485, 4, none⟩ = some (.int .i64 a1_4) ∧ w'.cell? ⟨gb485, 5, none⟩ = some (.slice A1_5 l1_5.length c1_5) ∧ w'.cell? (ad491.add ((x30_3).toNat * 6)) = some (.bool ((rd_T132 l1_2 x30_3).f0)) ∧ w'.cell? ⟨(ad491.add ((x30_3).toNat * 6)).block, (ad491.add ((x30_3).toNat * 6)).off + 1, none⟩ = some (.slice A491_1 ((rd_T132 l1_2 x30_3).f1).length c491_1) ∧ w'.cell? ⟨(ad491.add ((x30_3).toNat * 6)).block, (ad491.add ((x30_3).toNat * 6)).off + 2, none⟩ = some (.int .i64 ((rd_T132 l1_2 x30_3).f2.f0)) ∧ w'.cell? ⟨(ad491.add ((x30_3).toNat * 6)).block, (ad491.add ((x30_3).toNat * 6)).off + 3, none⟩ = some (.int .i64 ((rd_T132 l1_2 x30_3).f2.f1)) ∧ w'.cell? ⟨(ad491.add ((x30_3).toNat * 6)).block, (ad491.add ((x30_3).toNat * 6)).off + 4, none⟩ = some (.int .i64 ((rd_T132 l1_2 x30_3).f2.f2)) ∧ w'.cell? ⟨(ad491.add ((x30_3).toNat * 6)).block, (ad491.add ((x30_3).toNat * 6)).off + 5, none⟩ = some (.int .i64 ((rd_T132 l1_2 x30_3).f2.f3))) (ds := []) #[false, false, false, false, false, false, false, false] (by kernel_rfl) rfl rfl ⟨(blk_cell BK490.out 0).trans rfl, (blk_cell BK490.out 1).trans rfl, (blk_cell BK490.out 2).trans rfl, (blk_cell BK490.out 3).trans rfl, (blk_cell BK490.out 4).trans rfl, (blk_cell BK490.out 5).trans rfl, (blk_cell BK485.out 0).trans rfl, (blk_cell BK485.out 1).trans rfl, (blk_cell BK485.out 2).trans rfl, (blk_cell BK485.out 3).trans rfl, (blk_cell BK485.out 4).trans rfl, (blk_cell BK485.out 5).trans rfl, (sqa HB hw491_0 :), (sqa HB hw491_1 :), (sqa HB hw491_2 :), (sqa HB hw491_3 :), (sqa HB hw491_4 :), (sqa HB hw491_5 :)⟩ (fun hHeld => ?_); refine with_tabW impl_AbsIn.tab10 impl_AbsIn.bits10 (fun HT_ HW_ => ?_)
       generalize w43.drew = w44 at BK484 BK485 BK490 HB HR491_1 hx491_0 hx491_1 hx491_2 hx491_3 hx491_4 hx491_5 hHeld ⊢
       refine sqp HT_ 1 36 ?_
       refine sqp HT_ 3 38 ?_
       refine sqw HT_ HW_ 0 35 hHeld ?_
       refine sqw HT_ HW_ 2 37 hHeld ?_
       refine sqp HT_ 4 39 ?_
       refine sqw HT_ HW_ 5 40 hHeld ?_
       refine sqo HT_ 6 41 (fun K hK => ?_)
       refine sqG Try.func164 #[.agg #[.bool ((rd_T132 l0_2 x30_3).f0), .slice A489_1 ((rd_T132 l0_2 x30_3).f1).length c489_1, .int .i64 ((rd_T132 l0_2 x30_3).f2.f0), .int .i64 ((rd_T132 l0_2 x30_3).f2.f1), .int .i64 ((rd_T132 l0_2 x30_3).f2.f2), .int .i64 ((rd_T132 l0_2 x30_3).f2.f3)], .agg #[.bool ((rd_T132 l1_2 x30_3).f0), .slice A491_1 ((rd_T132 l1_2 x30_3).f1).length c491_1, .int .i64 ((rd_T132 l1_2 x30_3).f2.f0), .int .i64 ((rd_T132 l1_2 x30_3).f2.f1), .int .i64 ((rd_T132 l1_2 x30_3).f2.f2), .int .i64 ((rd_T132 l1_2 x30_3).f2.f3)]] ?_
       with_reducible refine (impl_refIn.calls k3 ((rd_T132 l0_2 x30_3).f0) _ _ ((rd_T132 l0_2 x30_3).f1) ((rd_T132 l0_2 x30_3).f2.f0) ((rd_T132 l0_2 x30_3).f2.f1) ((rd_T132 l0_2 x30_3).f2.f2) ((rd_T132 l0_2 x30_3).f2.f3) ((rd_T132 l1_2 x30_3).f0) _ _ ((rd_T132 l1_2 x30_3).f1) ((rd_T132 l1_2 x30_3).f2.f0) ((rd_T132 l1_2 x30_3).f2.f1) ((rd_T132 l1_2 x30_3).f2.f2) ((rd_T132 l1_2 x30_3).f2.f3) true _ ?side1 ?side2 ?side3 ?side4 A37.out).mono ?_
       (case side1 => exact sqC (Kd.C_below HR489_1.out HB.out))
       (case side2 => exact HC489_1.out)
       (case side3 => exact sqC (Kd.C_below HR491_1.out HB.out))
       (case side4 => exact HC491_1.out)
       rintro e w45 ⟨rfl, hb⟩
       refine ⟨_, rfl, ?_⟩
       refine sqM3 BK484 BK485 BK490 hb ?_; clear BK484 BK485 BK490; intro BK484 BK485 BK490
       replace HB := sqs HB hb
       (try clear hb)
       refine hK.out _ _ ⟨(blk_cell BK490.out 0).trans rfl, (blk_cell BK490.out 1).trans rfl, (blk_cell BK490.out 2).trans rfl, (blk_cell BK490.out 3).trans rfl, (blk_cell BK490.out 4).trans rfl, (blk_cell BK490.out 5).trans rfl, (blk_cell BK485.out 0).trans rfl, (blk_cell BK485.out 1).trans rfl, (blk_cell BK485.out 2).trans rfl, (blk_cell BK485.out 3).trans rfl, (blk_cell BK485.out 4).trans rfl, (blk_cell BK485.out 5).trans rfl, (sqa HB hw491_0 :), (sqa HB hw491_1 :), (sqa HB hw491_2 :), (sqa HB hw491_3 :), (sqa HB hw491_4 :), (sqa HB hw491_5 :)⟩ (fun hHeld => ?_)
       clear hK K
       refine sqnm ?_
       refine sqp HT_ 7 42 ?_
       refine done_ (done_of HT_.out (by kernel_rfl)) ?_
       try go_wp2
       go_roundg k3
       case measure => have := HJ2.out; have := HJ18.out; have := HK3.out; omega
       case rel => exact ⟨(wrap64 (x30_3 + 1)), (by first | rfl | (simp; done) | (simp [*]; done)), H', ⟨by have := HJ2.out; have := HJ18.out; have := HK3.out; omega⟩, sqk BK484, sqk BK485, sqh HB⟩

end Go.Proofs.Ytkekcenlleebeaa.PFnExactAbsIn
