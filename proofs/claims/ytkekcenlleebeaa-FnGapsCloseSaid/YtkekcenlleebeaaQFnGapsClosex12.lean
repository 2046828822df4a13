/- Functions of the program as plain Lean functions, and that calls of them come to what these tell. Conditions: those in each law. -/
import Derived.Test.YtkekcenlleebeaaSq
import Derived.Test.YtkekcenlleebeaaDFnGapsClose
import Derived.Test.YtkekcenlleebeaaQFnGapsClosex0
import Derived.Test.YtkekcenlleebeaaQFnGapsClosex5
namespace Go.Proofs.Ytkekcenlleebeaa.PFnGapsClose
open Go.RowKit Go.Proofs.Ytkekcenlleebeaa.Sq Go.Proofs.YtkekcenlleebeaaW.PrintWords Go.Proofs.YtkekcenlleebeaaW.PrintLast Go.Proofs.YtkekcenlleebeaaW.PrintMore
attribute [local go_sem] max2_int min2_int max_two min_two max_three min_three max_four min_four   -- for this text's walks alone
set_option linter.unusedVariables false
set_option linter.unusedSimpArgs false

/-! ### impl_GapsIn: function 30 -/
set_option maxHeartbeats 8000000 in
set_option maxRecDepth 100000 in
theorem impl_GapsIn.calls (k : Nat) (a0_0 : Int) (A0_1 : Option Addr) (c0_1 : Nat) (l0_1 : List Int) (a1_0 : Int) (A1_1 : Option Addr) (c1_1 : Nat) (l1_1 : List Int) (r : Bool) (w : World) (hr0_1 : Kd.C (Kd.int .i64) w A0_1 l0_1.length l0_1) (hc0_1 : l0_1.length ≤ c0_1) (hr1_1 : Kd.C (Kd.int .i64) w A1_1 l1_1.length l1_1) (hc1_1 : l1_1.length ≤ c1_1) (h : impl_GapsIn.f k a0_0 l0_1 a1_0 l1_1 = some r) :
  Calls Try.prog 30 #[.agg #[.int .i64 a0_0, .slice A0_1 l0_1.length c0_1], .agg #[.int .i64 a1_0, .slice A1_1 l1_1.length c1_1]] w fun e w' => e = .returned (.bool r) ∧ Below w.heap.size w w' := by
 have hu41 := Try.underlying41
 have HR0_1 := Aside0.mk hr0_1
 have HC0_1 := Aside0.mk hc0_1
 clear hr0_1 hc0_1
 have HR1_1 := Aside0.mk hr1_1
 have HC1_1 := Aside0.mk hc1_1
 clear hr1_1 hc1_1
 have HB := Aside0.mk (Below.refl w.heap.size w)
 have H : ((impl_GapsOk.f k a0_0 l0_1).bind fun t308 => (if t308 = true then ((impl_GapsOk.f k a1_0 l1_1).bind fun t309 => (if t309 = true then (impl_GapsIn.j0 k (a0_0 != a1_0) a0_0 l0_1 a1_0 l1_1) else (impl_GapsIn.j0 k true a0_0 l0_1 a1_0 l1_1))) else (impl_GapsIn.j0 k true a0_0 l0_1 a1_0 l1_1))) = some r := h
 clear h
 have HC3 := Aside0.mk H
 clear H
 go_enter Try.func30, Try.ntmps30
 go_upto_region 1 with (first | ((with_reducible refine gate_dst (N := 2) rfl ?_); refine sqx 2 #[.int .i64 a0_0, .slice A0_1 l0_1.length c0_1] 41 ?_; intro gb306 hg w4 hbox hb; have BK306 := Aside0.mk hbox; have GW306 := sqg HB hg; have GE306 := sqg HB hg; replace HB := sqs HB hb; clear hb hbox hg) | ((with_reducible refine gate_dst (N := 3) rfl ?_); refine sqx 3 #[.int .i64 a1_0, .slice A1_1 l1_1.length c1_1] 41 ?_; intro gb307 hg w5 hbox hb; have BK307 := Aside0.mk hbox; have GW307 := sqg HB hg; have GE307 := sqg HB hg; have NB306_307 := sqn BK306 hg; have NB307_306 := sqm BK306 hg; replace BK306 := sqb BK306 hb; replace HB := sqs HB hb; clear hb hbox hg))
 (try simp only [Act.put, List.setIfInBounds_toArray, List.set_cons_zero, List.set_cons_succ])
 go_cut [21] (fun v21 wc => ∃ (kq : Nat) (x21_2 : Bool), v21 = .bool x21_2 ∧ Aside0 (impl_GapsIn.j0 kq x21_2 a0_0 l0_1 a1_0 l1_1 = some r) ∧ Aside0 (kq ≤ k) ∧ Aside0 (wc.heap[gb306]? = some (.cells #[.int .i64 a0_0, (.slice A0_1 l0_1.length c0_1)] 41 (0, 0))) ∧ Aside0 (wc.heap[gb307]? = some (.cells #[.int .i64 a1_0, (.slice A1_1 l1_1.length c1_1)] 41 (0, 0))) ∧ Aside0 (Below w.heap.size w wc))
 case first =>
  have H := HC3.out
  clear HC3
  replace H := sqbi H
  obtain ⟨t308, A6, H⟩ := H
  replace H : (if t308 = true then ((impl_GapsOk.f k a1_0 l1_1).bind fun t309 => (if t309 = true then (impl_GapsIn.j0 k (a0_0 != a1_0) a0_0 l0_1 a1_0 l1_1) else (impl_GapsIn.j0 k true a0_0 l0_1 a1_0 l1_1))) else (impl_GapsIn.j0 k true a0_0 l0_1 a1_0 l1_1)) = some r := H
  rcases sqI (t308 = true) with c7 | c7
  ·replace c7 := Bool.eq_false_iff.mpr c7
   subst c7
   have H1 : (impl_GapsIn.j0 k true a0_0 l0_1 a1_0 l1_1) = some r := by rw [if_neg (show ¬ (false = true) by decide)] at H; exact H
   clear H
   have H := H1
   clear H1
   have H' := Aside0.mk H
   clear H
   have hnb22 := NB306_307.out
   have hnc22 := NB307_306.out
   obtain ⟨hcz23_0, hcz23_1, hfz23_0, hfz23_1⟩ := sqc2 BK306
   go_wp2_with (first | ((with_reducible refine gate_callee (f := 31) rfl ?_); refine sqL (some 8) Try.func31 #[.agg #[.int .i64 a0_0, .slice A0_1 l0_1.length c0_1]] ?_; (with_reducible refine (impl_GapsOk.calls k a0_0 _ _ l0_1 false _ ?side1 ?side2 A6.out).mono ?_); (case side1 => exact sqC (Kd.C_below HR0_1.out HB.out)); (case side2 => exact HC0_1.out); rintro e w24 ⟨rfl, hb⟩; refine ⟨_, rfl, ?_⟩; refine sqM2 BK306 BK307 hb ?_; clear BK306 BK307; intro BK306 BK307; replace HB := sqs HB hb; (try clear hb)))
   go_meet
   case rel => exact ⟨_, (true), (by first | rfl | (simp; done) | (simp [*]; done)), H', ⟨by first | omega | exact Nat.le_refl _⟩, sqk BK306, sqk BK307, sqh HB⟩
  subst c7
  have H1 : ((impl_GapsOk.f k a1_0 l1_1).bind fun t309 => (if t309 = true then (impl_GapsIn.j0 k (a0_0 != a1_0) a0_0 l0_1 a1_0 l1_1) else (impl_GapsIn.j0 k true a0_0 l0_1 a1_0 l1_1))) = some r := by rw [if_pos rfl] at H; exact H
  clear H
  have H := H1
  clear H1
  replace H := sqbi H
  obtain ⟨t309, A8, H⟩ := H
  replace H : (if t309 = true then (impl_GapsIn.j0 k (a0_0 != a1_0) a0_0 l0_1 a1_0 l1_1) else (impl_GapsIn.j0 k true a0_0 l0_1 a1_0 l1_1)) = some r := H
  rcases sqI (t309 = true) with c9 | c9
  ·replace c9 := Bool.eq_false_iff.mpr c9
   subst c9
   have H1 : (impl_GapsIn.j0 k true a0_0 l0_1 a1_0 l1_1) = some r := by rw [if_neg (show ¬ (false = true) by decide)] at H; exact H
   clear H
   have H := H1
   clear H1
   have H' := Aside0.mk H
   clear H
   have hnb17 := NB306_307.out
   have hnc17 := NB307_306.out
   obtain ⟨hcz18_0, hcz18_1, hfz18_0, hfz18_1⟩ := sqc2 BK306
   go_wp2_with (first | ((with_reducible refine gate_callee (f := 31) rfl ?_); refine sqL (some 8) Try.func31 #[.agg #[.int .i64 a0_0, .slice A0_1 l0_1.length c0_1]] ?_; (with_reducible refine (impl_GapsOk.calls k a0_0 _ _ l0_1 true _ ?side1 ?side2 A6.out).mono ?_); (case side1 => exact sqC (Kd.C_below HR0_1.out HB.out)); (case side2 => exact HC0_1.out); rintro e w19 ⟨rfl, hb⟩; refine ⟨_, rfl, ?_⟩; refine sqM2 BK306 BK307 hb ?_; clear BK306 BK307; intro BK306 BK307; replace HB := sqs HB hb; (try clear hb); obtain ⟨hcz20_0, hcz20_1, hfz20_0, hfz20_1⟩ := sqc2 BK307) | (go_at_call 31; (with_reducible refine (impl_GapsOk.calls k a1_0 _ _ l1_1 false _ ?side1 ?side2 A8.out).mono ?_); (case side1 => exact sqC (Kd.C_below HR1_1.out HB.out)); (case side2 => exact HC1_1.out); rintro e w21 ⟨rfl, hb⟩; refine sqM2 BK306 BK307 hb ?_; clear BK306 BK307; intro BK306 BK307; replace HB := sqs HB hb; (try clear hb)))
   go_meet
   case rel => exact ⟨_, (true), (by first | rfl | (simp; done) | (simp [*]; done)), H', ⟨by first | omega | exact Nat.le_refl _⟩, sqk BK306, sqk BK307, sqh HB⟩
  subst c9
  have H1 : (impl_GapsIn.j0 k (a0_0 != a1_0) a0_0 l0_1 a1_0 l1_1) = some r := by rw [if_pos rfl] at H; exact H
  clear H
  have H := H1
  clear H1
  have H' := Aside0.mk H
  clear H
  have hnb10 := NB306_307.out
  have hnc10 := NB307_306.out
  obtain ⟨hcz11_0, hcz11_1, hfz11_0, hfz11_1⟩ := sqc2 BK306
  go_wp2_with (first | ((with_reducible refine gate_callee (f := 31) rfl ?_); refine sqL (some 8) Try.func31 #[.agg #[.int .i64 a0_0, .slice A0_1 l0_1.length c0_1]] ?_; (with_reducible refine (impl_GapsOk.calls k a0_0 _ _ l0_1 true _ ?side1 ?side2 A6.out).mono ?_); (case side1 => exact sqC (Kd.C_below HR0_1.out HB.out)); (case side2 => exact HC0_1.out); rintro e w12 ⟨rfl, hb⟩; refine ⟨_, rfl, ?_⟩; refine sqM2 BK306 BK307 hb ?_; clear BK306 BK307; intro BK306 BK307; replace HB := sqs HB hb; (try clear hb); obtain ⟨hcz13_0, hcz13_1, hfz13_0, hfz13_1⟩ := sqc2 BK307) | (go_at_call 31; (with_reducible refine (impl_GapsOk.calls k a1_0 _ _ l1_1 true _ ?side1 ?side2 A8.out).mono ?_); (case side1 => exact sqC (Kd.C_below HR1_1.out HB.out)); (case side2 => exact HC1_1.out); rintro e w14 ⟨rfl, hb⟩; refine sqM2 BK306 BK307 hb ?_; clear BK306 BK307; intro BK306 BK307; replace HB := sqs HB hb; (try clear hb); obtain ⟨hcz15_0, hcz15_1, hfz15_0, hfz15_1⟩ := sqc2 BK306; obtain ⟨hcz16_0, hcz16_1, hfz16_0, hfz16_1⟩ := sqc2 BK307))
  go_meet
  case rel => exact ⟨_, ((a0_0 != a1_0)), (by first | rfl | (simp; done) | (simp [*]; done)), H', ⟨by first | omega | exact Nat.le_refl _⟩, sqk BK306, sqk BK307, sqh HB⟩
 case rest =>
  clear HC3
  obtain ⟨kq, x21_2, rfl, HA, HJ2, BK306, BK307, HB⟩ := hcut
  cases kq with
  | zero => exact absurd HA.out (by simp [impl_GapsIn.j0])
  | succ kj2 =>
   have H := HA.out
   clear HA
   simp only [impl_GapsIn.j0] at H
   by_cases c25 : x21_2 = true
   ·subst c25
    have H1 : (some false) = some r := by rw [if_pos rfl] at H; exact H
    clear H
    have H := H1
    clear H1
    obtain rfl := Option.some.inj H
    go_wp2
    go_ret
    exact sqe HB
   replace c25 := Bool.eq_false_iff.mpr c25
   subst c25
   have H1 : (impl_GapsIn.l0 kj2 l0_1 (l0_1.length : Int) 0 a1_0 l1_1) = some r := by rw [if_neg (show ¬ (false = true) by decide)] at H; exact H
   clear H
   have H := H1
   clear H1
   have H' := Aside0.mk H
   clear H
   have hnb26 := NB306_307.out
   have hnc26 := NB307_306.out
   obtain ⟨hcz27_0, hcz27_1, hfz27_0, hfz27_1⟩ := sqc2 BK306
   go_wp2
   go_loopg [25] kj2 (fun kq v25 w' => ∃ (x25_2 : Int), v25 = .int .i64 x25_2 ∧ Aside0 (impl_GapsIn.l0 kq l0_1 (l0_1.length : Int) x25_2 a1_0 l1_1 = some r) ∧ Aside0 (kq ≤ kj2) ∧ Aside0 (w'.heap[gb306]? = some (.cells #[.int .i64 a0_0, (.slice A0_1 l0_1.length c0_1)] 41 (0, 0))) ∧ Aside0 (w'.heap[gb307]? = some (.cells #[.int .i64 a1_0, (.slice A1_1 l1_1.length c1_1)] 41 (0, 0))) ∧ Aside0 (Below w.heap.size w w'))
   case atStart => exact ⟨(0), (by first | rfl | (simp; done) | (simp [*]; done)), H', ⟨Nat.le_refl _⟩, sqk BK306, sqk BK307, sqh HB⟩
   case round =>
    clear H'
    obtain ⟨x25_2, rfl, HA, HK2, BK306, BK307, HB⟩ := hrel
    cases gk with
    | zero => exact absurd HA.out (by simp [impl_GapsIn.l0])
    | succ k2 =>
     have H := HA.out
     clear HA
     simp only [impl_GapsIn.l0] at H
     replace H := sqi H
     rcases H with ⟨c28, H⟩ | ⟨c28, H⟩
     ·have c28b0 := decide_eq_false c28
      clear c28
      obtain rfl := Option.some.inj H
      go_wp2
      go_ret
      exact sqe HB
     have c28b0 := decide_eq_true c28
     clear c28
     replace H := sqi H
     rcases H with ⟨c29, H⟩ | ⟨c29, H⟩
     ·exact absurd H (by simp)
     have c29b0 := decide_eq_true c29
     clear c29
     replace H := sqi H
     rcases H with ⟨c30, H⟩ | ⟨c30, H⟩
     ·exact absurd H (by simp)
     have c30b0 := decide_eq_true c30
     clear c30
     replace H := sqi H
     rcases H with ⟨c31, H⟩ | ⟨c31, H⟩
     ·exact absurd H (by simp)
     have c31b0 := decide_eq_true c31
     clear c31
     replace H := sqj H
     rcases H with ⟨c32, H⟩ | ⟨c32, H⟩
     ·have c32b0 : decide ((rd l1_1 x25_2) < (rd l0_1 x25_2)) = true := decide_eq_true c32
      clear c32
      obtain rfl := Option.some.inj H
      have p310 : 0 ≤ (x25_2 : Int) := sqd
      have q310 : x25_2 < (l0_1.length : Int) := sqd
      obtain ⟨ad310, e310, hx310_0⟩ := Kd.at_int HR0_1.out x25_2 p310 q310
      cases e310
      replace hx310_0 := sqa HB hx310_0
      replace p310 := eq_true p310
      replace q310 := eq_true q310
      have hnb33 := NB307_306.out
      have hnc33 := NB306_307.out
      obtain ⟨hcz34_0, hcz34_1, hfz34_0, hfz34_1⟩ := sqc2 BK307
      have p311 : 0 ≤ (x25_2 : Int) := sqd
      have q311 : x25_2 < (l1_1.length : Int) := sqd
      obtain ⟨ad311, e311, hx311_0⟩ := Kd.at_int HR1_1.out x25_2 p311 q311
      cases e311
      replace hx311_0 := sqa HB hx311_0
      replace p311 := eq_true p311
      replace q311 := eq_true q311
      go_wp2
      go_ret
      exact sqe HB
     have c32b0 : decide ((rd l1_1 x25_2) < (rd l0_1 x25_2)) = false := decide_eq_false c32
     clear c32
     have H' := Aside0.mk H
     clear H
     have p310 : 0 ≤ (x25_2 : Int) := sqd
     have q310 : x25_2 < (l0_1.length : Int) := sqd
     obtain ⟨ad310, e310, hx310_0⟩ := Kd.at_int HR0_1.out x25_2 p310 q310
     cases e310
     replace hx310_0 := sqa HB hx310_0
     replace p310 := eq_true p310
     replace q310 := eq_true q310
     have hnb35 := NB307_306.out
     have hnc35 := NB306_307.out
     obtain ⟨hcz36_0, hcz36_1, hfz36_0, hfz36_1⟩ := sqc2 BK307
     have p311 : 0 ≤ (x25_2 : Int) := sqd
     have q311 : x25_2 < (l1_1.length : Int) := sqd
     obtain ⟨ad311, e311, hx311_0⟩ := Kd.at_int HR1_1.out x25_2 p311 q311
     cases e311
     replace hx311_0 := sqa HB hx311_0
     replace p311 := eq_true p311
     replace q311 := eq_true q311
     go_wp2
     go_roundg k2
     case measure => have := HJ2.out; have := HK2.out; omega
     case rel => exact ⟨(wrap64 (x25_2 + 1)), (by first | rfl | (simp; done) | (simp [*]; done)), H', ⟨by have := HJ2.out; have := HK2.out; omega⟩, sqk BK306, sqk BK307, sqh HB⟩

end Go.Proofs.Ytkekcenlleebeaa.PFnGapsClose
