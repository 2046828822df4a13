/- Functions of the program as plain Lean functions, and that calls of them come to what these tell. Conditions: those in each law. -/
import Derived.Test.YtkekcenlleebeaaSq
import Derived.Test.YtkekcenlleebeaaDFnExactAbsIn
import Derived.Test.YtkekcenlleebeaaQFnExactAbsInx0
import Derived.Test.YtkekcenlleebeaaQFnExactAbsInx28
namespace Go.Proofs.Ytkekcenlleebeaa.PFnExactAbsIn
open Go.RowKit Go.Proofs.Ytkekcenlleebeaa.Sq Go.Proofs.YtkekcenlleebeaaW.PrintWords Go.Proofs.YtkekcenlleebeaaW.PrintLast Go.Proofs.YtkekcenlleebeaaW.PrintMore
attribute [local go_sem] max2_int min2_int max_two min_two max_three min_three max_four min_four   -- for this text's walks alone
set_option linter.unusedVariables false
set_option linter.unusedSimpArgs false

/-! ### impl_absHasArray: function 210 -/
set_option maxHeartbeats 8000000 in
set_option maxRecDepth 100000 in
theorem impl_absHasArray.calls (k : Nat) (A0 : Option Addr) (c0 : Nat) (l0 : List Int) (a1 : Int) (r : Bool) (w : World) (hr0 : Kd.C (Kd.int .i64) w A0 l0.length l0) (hc0 : l0.length ≤ c0) (h : impl_absHasArray.f k l0 a1 = some r) :
  Calls Try.prog 210 #[.slice A0 l0.length c0, .int .i64 a1] w fun e w' => e = .returned (.bool r) ∧ Drawn0 w w' := by
 have HR0 := Aside0.mk hr0
 have HC0 := Aside0.mk hc0
 clear hr0 hc0
 have H : (impl_absHasArray.l0 k a1 l0 (l0.length : Int) 0) = some r := h
 clear h
 have H' := Aside0.mk H
 clear H
 go_enter Try.func210, Try.ntmps210
 go_wp2
 go_loopg [9] k (fun kq v9 w' => ∃ (x9_1 : Int), v9 = .int .i64 x9_1 ∧ Aside0 (impl_absHasArray.l0 kq a1 l0 (l0.length : Int) x9_1 = some r) ∧ Aside0 (kq ≤ k) ∧ Drawn0 w w')
 case atStart => exact ⟨(0), (by first | rfl | (simp; done) | (simp [*]; done)), H', ⟨Nat.le_refl _⟩, by repeat (first | exact Drawn0.refl _ | apply Drawn0.step)⟩
 case round =>
  clear H'
  obtain ⟨x9_1, rfl, HA, HK1, ⟨m1, rfl⟩⟩ := hrel
  cases gk with
  | zero => exact absurd HA.out (by simp [impl_absHasArray.l0])
  | succ k1 =>
   have H := HA.out
   clear HA
   simp only [impl_absHasArray.l0] at H
   replace H := sqi H
   rcases H with ⟨c3, H⟩ | ⟨c3, H⟩
   ·have c3b0 := decide_eq_false c3
    clear c3
    obtain rfl := Option.some.inj H
    go_wp2
    go_ret
    exact ⟨by first | rfl | (simp; done) | (simp [*]; done), by repeat (first | exact Drawn0.refl _ | apply Drawn0.step)⟩
   have c3b0 := decide_eq_true c3
   clear c3
   replace H := sqi H
   rcases H with ⟨c4, H⟩ | ⟨c4, H⟩
   ·exact absurd H (by simp)
   have c4b0 := decide_eq_true c4
   clear c4
   replace H := sqi H
   rcases H with ⟨c5, H⟩ | ⟨c5, H⟩
   ·exact absurd H (by simp)
   have c5b0 := decide_eq_true c5
   clear c5
   replace H := sqj H
   rcases H with ⟨c6, H⟩ | ⟨c6, H⟩
   ·have c6b0 : ((rd l0 x9_1) == a1) = true := beq_iff_eq.mpr c6
    have c6b1 : ((rd l0 x9_1) != a1) = false := bne_eq_false_iff_eq.mpr c6
    clear c6
    obtain rfl := Option.some.inj H
    have p474 : 0 ≤ (x9_1 : Int) := sqd
    have q474 : x9_1 < (l0.length : Int) := sqd
    obtain ⟨ad474, e474, hx474_0⟩ := Kd.at_int HR0.out x9_1 p474 q474
    cases e474
    replace p474 := eq_true p474
    replace q474 := eq_true q474
    go_wp2
    go_ret
    exact ⟨by first | rfl | (simp; done) | (simp [*]; done), by repeat (first | exact Drawn0.refl _ | apply Drawn0.step)⟩
   have c6b0 : ((rd l0 x9_1) == a1) = false := beq_eq_false_iff_ne.mpr c6
   have c6b1 : ((rd l0 x9_1) != a1) = true := bne_iff_ne.mpr c6
   have H' := Aside0.mk H
   clear H
   have p474 : 0 ≤ (x9_1 : Int) := sqd
   have q474 : x9_1 < (l0.length : Int) := sqd
   obtain ⟨ad474, e474, hx474_0⟩ := Kd.at_int HR0.out x9_1 p474 q474
   cases e474
   replace p474 := eq_true p474
   replace q474 := eq_true q474
   go_wp2
   go_roundg k1
   case measure => have := HK1.out; omega
   case rel => exact ⟨(wrap64 (x9_1 + 1)), (by first | rfl | (simp; done) | (simp [*]; done)), H', ⟨by have := HK1.out; omega⟩, by repeat (first | exact Drawn0.refl _ | apply Drawn0.step)⟩

/-! ### impl_refIn: function 164 -/
set_option maxHeartbeats 8000000 in
set_option maxRecDepth 100000 in
theorem impl_refIn.calls (k : Nat) (a0_0 : Bool) (A0_1 : Option Addr) (c0_1 : Nat) (l0_1 : List Int) (a0_2 : Int) (a0_3 : Int) (a0_4 : Int) (a0_5 : Int) (a1_0 : Bool) (A1_1 : Option Addr) (c1_1 : Nat) (l1_1 : List Int) (a1_2 : Int) (a1_3 : Int) (a1_4 : Int) (a1_5 : Int) (r : Bool) (w : World) (hr0_1 : Kd.C (Kd.int .i64) w A0_1 l0_1.length l0_1) (hc0_1 : l0_1.length ≤ c0_1) (hr1_1 : Kd.C (Kd.int .i64) w A1_1 l1_1.length l1_1) (hc1_1 : l1_1.length ≤ c1_1) (h : impl_refIn.f k a0_0 l0_1 a0_2 a0_3 a0_4 a0_5 a1_0 l1_1 a1_2 a1_3 a1_4 a1_5 = some r) :
  Calls Try.prog 164 #[.agg #[.bool a0_0, .slice A0_1 l0_1.length c0_1, .int .i64 a0_2, .int .i64 a0_3, .int .i64 a0_4, .int .i64 a0_5], .agg #[.bool a1_0, .slice A1_1 l1_1.length c1_1, .int .i64 a1_2, .int .i64 a1_3, .int .i64 a1_4, .int .i64 a1_5]] w fun e w' => e = .returned (.bool r) ∧ Below w.heap.size w w' := by
 have hu132 := Try.underlying132
 have hu30 := Try.underlying30
 have HR0_1 := Aside0.mk hr0_1
 have HC0_1 := Aside0.mk hc0_1
 clear hr0_1 hc0_1
 have HR1_1 := Aside0.mk hr1_1
 have HC1_1 := Aside0.mk hc1_1
 clear hr1_1 hc1_1
 have HB := Aside0.mk (Below.refl w.heap.size w)
 have H : (if a0_0 = true then (impl_refIn.j0 k (!a1_0) a0_0 l0_1 a0_2 a0_3 a0_4 a0_5 a1_0 l1_1 a1_2 a1_3 a1_4 a1_5) else (impl_refIn.j0 k false a0_0 l0_1 a0_2 a0_3 a0_4 a0_5 a1_0 l1_1 a1_2 a1_3 a1_4 a1_5)) = some r := h
 clear h
 have HC3 := Aside0.mk H
 clear H
 go_enter Try.func164, Try.ntmps164
 go_upto_region 1 with (first | ((with_reducible refine gate_dst (N := 2) rfl ?_); refine sqx 2 #[.bool a0_0, .slice A0_1 l0_1.length c0_1, .int .i64 a0_2, .int .i64 a0_3, .int .i64 a0_4, .int .i64 a0_5] 132 ?_; intro gb475 hg w4 hbox hb; have BK475 := Aside0.mk hbox; have GW475 := sqg HB hg; have GE475 := sqg HB hg; replace HB := sqs HB hb; clear hb hbox hg) | ((with_reducible refine gate_dst (N := 3) rfl ?_); refine sqx 3 #[.bool a1_0, .slice A1_1 l1_1.length c1_1, .int .i64 a1_2, .int .i64 a1_3, .int .i64 a1_4, .int .i64 a1_5] 132 ?_; intro gb476 hg w5 hbox hb; have BK476 := Aside0.mk hbox; have GW476 := sqg HB hg; have GE476 := sqg HB hg; have NB475_476 := sqn BK475 hg; have NB476_475 := sqm BK475 hg; replace BK475 := sqb BK475 hb; replace HB := sqs HB hb; clear hb hbox hg))
 (try simp only [Act.put, List.setIfInBounds_toArray, List.set_cons_zero, List.set_cons_succ])
 go_cut [13] (fun v13 wc => ∃ (kq : Nat) (x13_2 : Bool), v13 = .bool x13_2 ∧ Aside0 (impl_refIn.j0 kq x13_2 a0_0 l0_1 a0_2 a0_3 a0_4 a0_5 a1_0 l1_1 a1_2 a1_3 a1_4 a1_5 = some r) ∧ Aside0 (kq ≤ k) ∧ Aside0 (wc.heap[gb475]? = some (.cells #[.bool a0_0, (.slice A0_1 l0_1.length c0_1), .int .i64 a0_2, .int .i64 a0_3, .int .i64 a0_4, .int .i64 a0_5] 132 (0, 0))) ∧ Aside0 (wc.heap[gb476]? = some (.cells #[.bool a1_0, (.slice A1_1 l1_1.length c1_1), .int .i64 a1_2, .int .i64 a1_3, .int .i64 a1_4, .int .i64 a1_5] 132 (0, 0))) ∧ Aside0 (Below w.heap.size w wc))
 case first =>
  have H := HC3.out
  clear HC3
  rcases sqI (a0_0 = true) with c6 | c6
  ·replace c6 := Bool.eq_false_iff.mpr c6
   subst c6
   have H1 : (impl_refIn.j0 k false false l0_1 a0_2 a0_3 a0_4 a0_5 a1_0 l1_1 a1_2 a1_3 a1_4 a1_5) = some r := by rw [if_neg (show ¬ (false = true) by decide)] at H; exact H
   clear H
   have H := H1
   clear H1
   have H' := Aside0.mk H
   clear H
   have hnb10 := NB475_476.out
   have hnc10 := NB476_475.out
   obtain ⟨hcz11_0, hcz11_1, hcz11_2, hcz11_3, hcz11_4, hcz11_5, hfz11_0, hfz11_1, hfz11_2, hfz11_3, hfz11_4, hfz11_5⟩ := sqc6 BK475
   go_wp2
   go_meet
   case rel => exact ⟨_, (false), (by first | rfl | (simp; done) | (simp [*]; done)), H', ⟨by first | omega | exact Nat.le_refl _⟩, sqk BK475, sqk BK476, sqh HB⟩
  subst c6
  have H1 : (impl_refIn.j0 k (!a1_0) true l0_1 a0_2 a0_3 a0_4 a0_5 a1_0 l1_1 a1_2 a1_3 a1_4 a1_5) = some r := by rw [if_pos rfl] at H; exact H
  clear H
  have H := H1
  clear H1
  have H' := Aside0.mk H
  clear H
  have hnb7 := NB475_476.out
  have hnc7 := NB476_475.out
  obtain ⟨hcz8_0, hcz8_1, hcz8_2, hcz8_3, hcz8_4, hcz8_5, hfz8_0, hfz8_1, hfz8_2, hfz8_3, hfz8_4, hfz8_5⟩ := sqc6 BK475
  obtain ⟨hcz9_0, hcz9_1, hcz9_2, hcz9_3, hcz9_4, hcz9_5, hfz9_0, hfz9_1, hfz9_2, hfz9_3, hfz9_4, hfz9_5⟩ := sqc6 BK476
  go_wp2
  go_meet
  case rel => exact ⟨_, (!a1_0), (by first | rfl | (simp; done) | (simp [*]; done)), H', ⟨by first | omega | exact Nat.le_refl _⟩, sqk BK475, sqk BK476, sqh HB⟩
 case rest =>
  clear HC3
  obtain ⟨kq, x13_2, rfl, HA, HJ2, BK475, BK476, HB⟩ := hcut
  cases kq with
  | zero => exact absurd HA.out (by simp [impl_refIn.j0])
  | succ kj2 =>
   have H := HA.out
   clear HA
   simp only [impl_refIn.j0] at H
   by_cases c12 : x13_2 = true
   ·subst c12
    have H1 : (some false) = some r := by rw [if_pos rfl] at H; exact H
    clear H
    have H := H1
    clear H1
    obtain rfl := Option.some.inj H
    go_wp2
    go_ret
    exact sqe HB
   replace c12 := Bool.eq_false_iff.mpr c12
   subst c12
   have H1 : (impl_refIn.l0 kj2 l0_1 (l0_1.length : Int) 0 a0_0 l0_1 a0_2 a0_3 a0_4 a0_5 a1_0 l1_1 a1_2 a1_3 a1_4 a1_5) = some r := by rw [if_neg (show ¬ (false = true) by decide)] at H; exact H
   clear H
   have H := H1
   clear H1
   have H' := Aside0.mk H
   clear H
   have hnb13 := NB475_476.out
   have hnc13 := NB476_475.out
   obtain ⟨hcz14_0, hcz14_1, hcz14_2, hcz14_3, hcz14_4, hcz14_5, hfz14_0, hfz14_1, hfz14_2, hfz14_3, hfz14_4, hfz14_5⟩ := sqc6 BK475
   go_wp2
   go_loopg [17] kj2 (fun kq v17 w' => ∃ (x17_2 : Int), v17 = .int .i64 x17_2 ∧ Aside0 (impl_refIn.l0 kq l0_1 (l0_1.length : Int) x17_2 a0_0 l0_1 a0_2 a0_3 a0_4 a0_5 a1_0 l1_1 a1_2 a1_3 a1_4 a1_5 = some r) ∧ Aside0 (kq ≤ kj2) ∧ Aside0 (w'.heap[gb475]? = some (.cells #[.bool a0_0, (.slice A0_1 l0_1.length c0_1), .int .i64 a0_2, .int .i64 a0_3, .int .i64 a0_4, .int .i64 a0_5] 132 (0, 0))) ∧ Aside0 (w'.heap[gb476]? = some (.cells #[.bool a1_0, (.slice A1_1 l1_1.length c1_1), .int .i64 a1_2, .int .i64 a1_3, .int .i64 a1_4, .int .i64 a1_5] 132 (0, 0))) ∧ Aside0 (Below w.heap.size w w'))
   case atStart => exact ⟨(0), (by first | rfl | (simp; done) | (simp [*]; done)), H', ⟨Nat.le_refl _⟩, sqk BK475, sqk BK476, sqh HB⟩
   case round =>
    clear H'
    obtain ⟨x17_2, rfl, HA, HK2, BK475, BK476, HB⟩ := hrel
    cases gk with
    | zero => exact absurd HA.out (by simp [impl_refIn.l0])
    | succ k2 =>
     have H := HA.out
     clear HA
     simp only [impl_refIn.l0] at H
     replace H := sqi H
     rcases H with ⟨c15, H⟩ | ⟨c15, H⟩
     ·have c15b0 := decide_eq_false c15
      clear c15
      replace H := sqbi H
      obtain ⟨t479, A24, H⟩ := H
      replace H : (some t479) = some r := H
      obtain rfl := Option.some.inj H
      have hnb25 := NB475_476.out
      have hnc25 := NB476_475.out
      obtain ⟨hcz26_0, hcz26_1, hcz26_2, hcz26_3, hcz26_4, hcz26_5, hfz26_0, hfz26_1, hfz26_2, hfz26_3, hfz26_4, hfz26_5⟩ := sqc6 BK475
      obtain ⟨hcz27_0, hcz27_1, hcz27_2, hcz27_3, hcz27_4, hcz27_5, hfz27_0, hfz27_1, hfz27_2, hfz27_3, hfz27_4, hfz27_5⟩ := sqc6 BK476
      go_wp2_with (first | ((with_reducible refine gate_callee (f := 81) rfl ?_); refine sqL (some 31) Try.func81 #[.agg #[.int .i64 a0_2, .int .i64 a0_3, .int .i64 a0_4, .int .i64 a0_5], .agg #[.int .i64 a1_2, .int .i64 a1_3, .int .i64 a1_4, .int .i64 a1_5]] ?_; (with_reducible refine (impl_ValIn.calls k2 a0_2 a0_3 a0_4 a0_5 a1_2 a1_3 a1_4 a1_5 t479 _ A24.out).mono ?_); rintro e w28 ⟨rfl, hb⟩; refine ⟨_, rfl, ?_⟩; refine sqM2 BK475 BK476 hb ?_; clear BK475 BK476; intro BK475 BK476; replace HB := sqs HB hb; (try clear hb)))
      go_ret
      exact sqe HB
     have c15b0 := decide_eq_true c15
     clear c15
     replace H := sqi H
     rcases H with ⟨c16, H⟩ | ⟨c16, H⟩
     ·exact absurd H (by simp)
     have c16b0 := decide_eq_true c16
     clear c16
     replace H := sqi H
     rcases H with ⟨c17, H⟩ | ⟨c17, H⟩
     ·exact absurd H (by simp)
     have c17b0 := decide_eq_true c17
     clear c17
     replace H := sqbi H
     obtain ⟨t478, A18, H⟩ := H
     replace H : (if t478 = true then (impl_refIn.l0 k2 l0_1 (l0_1.length : Int) (wrap64 (x17_2 + 1)) a0_0 l0_1 a0_2 a0_3 a0_4 a0_5 a1_0 l1_1 a1_2 a1_3 a1_4 a1_5) else (some false)) = some r := H
     rcases sqI (t478 = true) with c19 | c19
     ·replace c19 := Bool.eq_false_iff.mpr c19
      subst c19
      have H1 : (some false) = some r := by rw [if_neg (show ¬ (false = true) by decide)] at H; exact H
      clear H
      have H := H1
      clear H1
      obtain rfl := Option.some.inj H
      have p477 : 0 ≤ (x17_2 : Int) := sqd
      have q477 : x17_2 < (l0_1.length : Int) := sqd
      obtain ⟨ad477, e477, hx477_0⟩ := Kd.at_int HR0_1.out x17_2 p477 q477
      cases e477
      replace hx477_0 := sqa HB hx477_0
      replace p477 := eq_true p477
      replace q477 := eq_true q477
      have hnb22 := NB476_475.out
      have hnc22 := NB475_476.out
      obtain ⟨hcz23_0, hcz23_1, hcz23_2, hcz23_3, hcz23_4, hcz23_5, hfz23_0, hfz23_1, hfz23_2, hfz23_3, hfz23_4, hfz23_5⟩ := sqc6 BK476
      go_wp2_with (first | ((with_reducible refine gate_callee (f := 210) rfl ?_); refine sqL (some 24) Try.func210 #[.slice A1_1 l1_1.length c1_1, .int .i64 (rd l0_1 x17_2)] ?_; (with_reducible refine (impl_absHasArray.calls k2 _ _ l1_1 (rd l0_1 x17_2) false _ ?side1 ?side2 A18.out).mono ?_); (case side1 => exact sqC (Kd.C_below HR1_1.out HB.out)); (case side2 => exact HC1_1.out); rintro e w' ⟨rfl, ⟨nd, rfl⟩⟩; refine ⟨_, rfl, ?_⟩))
      go_ret
      exact sqe HB
     subst c19
     have H1 : (impl_refIn.l0 k2 l0_1 (l0_1.length : Int) (wrap64 (x17_2 + 1)) a0_0 l0_1 a0_2 a0_3 a0_4 a0_5 a1_0 l1_1 a1_2 a1_3 a1_4 a1_5) = some r := by rw [if_pos rfl] at H; exact H
     clear H
     have H := H1
     clear H1
     have H' := Aside0.mk H
     clear H
     have p477 : 0 ≤ (x17_2 : Int) := sqd
     have q477 : x17_2 < (l0_1.length : Int) := sqd
     obtain ⟨ad477, e477, hx477_0⟩ := Kd.at_int HR0_1.out x17_2 p477 q477
     cases e477
     replace hx477_0 := sqa HB hx477_0
     replace p477 := eq_true p477
     replace q477 := eq_true q477
     have hnb20 := NB476_475.out
     have hnc20 := NB475_476.out
     obtain ⟨hcz21_0, hcz21_1, hcz21_2, hcz21_3, hcz21_4, hcz21_5, hfz21_0, hfz21_1, hfz21_2, hfz21_3, hfz21_4, hfz21_5⟩ := sqc6 BK476
     go_wp2_with (first | ((with_reducible refine gate_callee (f := 210) rfl ?_); refine sqL (some 24) Try.func210 #[.slice A1_1 l1_1.length c1_1, .int .i64 (rd l0_1 x17_2)] ?_; (with_reducible refine (impl_absHasArray.calls k2 _ _ l1_1 (rd l0_1 x17_2) true _ ?side1 ?side2 A18.out).mono ?_); (case side1 => exact sqC (Kd.C_below HR1_1.out HB.out)); (case side2 => exact HC1_1.out); rintro e w' ⟨rfl, ⟨nd, rfl⟩⟩; refine ⟨_, rfl, ?_⟩))
     go_roundg k2
     case measure => have := HJ2.out; have := HK2.out; omega
     case rel => exact ⟨(wrap64 (x17_2 + 1)), (by first | rfl | (simp; done) | (simp [*]; done)), H', ⟨by have := HJ2.out; have := HK2.out; omega⟩, sqk BK475, sqk BK476, sqh HB⟩

/-! ### impl_absValsIn: function 165 -/
set_option maxHeartbeats 8000000 in
set_option maxRecDepth 100000 in
theorem impl_absValsIn.calls (k : Nat) (A0 : Option Addr) (c0 : Nat) (l0 : List (S30)) (A1 : Option Addr) (c1 : Nat) (l1 : List (S30)) (r : Bool) (w : World) (hr0 : Kd.C k30 w A0 l0.length l0) (hc0 : l0.length ≤ c0) (hr1 : Kd.C k30 w A1 l1.length l1) (hc1 : l1.length ≤ c1) (h : impl_absValsIn.f k l0 l1 = some r) :
  Calls Try.prog 165 #[.slice A0 l0.length c0, .slice A1 l1.length c1] w fun e w' => e = .returned (.bool r) ∧ Below w.heap.size w w' := by
 have hu30 := Try.underlying30
 have HR0 := Aside0.mk hr0
 have HC0 := Aside0.mk hc0
 clear hr0 hc0
 have HR1 := Aside0.mk hr1
 have HC1 := Aside0.mk hc1
 clear hr1 hc1
 have HB := Aside0.mk (Below.refl w.heap.size w)
 have H : (impl_absValsIn.l0 k l1 l0 (l0.length : Int) 0) = some r := h
 clear h
 have H' := Aside0.mk H
 clear H
 go_enter Try.func165, Try.ntmps165
 go_wp2
 go_loopg [9] k (fun kq v9 w' => ∃ (x9_1 : Int), v9 = .int .i64 x9_1 ∧ Aside0 (impl_absValsIn.l0 kq l1 l0 (l0.length : Int) x9_1 = some r) ∧ Aside0 (kq ≤ k) ∧ Aside0 (Below w.heap.size w w'))
 case atStart => exact ⟨(0), (by first | rfl | (simp; done) | (simp [*]; done)), H', ⟨Nat.le_refl _⟩, sqh HB⟩
 case round =>
  clear H'
  obtain ⟨x9_1, rfl, HA, HK1, HB⟩ := hrel
  cases gk with
  | zero => exact absurd HA.out (by simp [impl_absValsIn.l0])
  | succ k1 =>
   have H := HA.out
   clear HA
   simp only [impl_absValsIn.l0] at H
   replace H := sqi H
   rcases H with ⟨c3, H⟩ | ⟨c3, H⟩
   ·have c3b0 := decide_eq_false c3
    clear c3
    obtain rfl := Option.some.inj H
    go_wp2
    go_ret
    exact sqe HB
   have c3b0 := decide_eq_true c3
   clear c3
   replace H := sqi H
   rcases H with ⟨c4, H⟩ | ⟨c4, H⟩
   ·exact absurd H (by simp)
   have c4b0 := decide_eq_true c4
   clear c4
   replace H := sqi H
   rcases H with ⟨c5, H⟩ | ⟨c5, H⟩
   ·exact absurd H (by simp)
   have c5b0 := decide_eq_true c5
   clear c5
   replace H := sqi H
   rcases H with ⟨c6, H⟩ | ⟨c6, H⟩
   ·exact absurd H (by simp)
   have c6b0 := decide_eq_true c6
   clear c6
   replace H := sqbi H
   obtain ⟨t483, A7, H⟩ := H
   replace H : (if t483 = true then (impl_absValsIn.l0 k1 l1 l0 (l0.length : Int) (wrap64 (x9_1 + 1))) else (some false)) = some r := H
   rcases sqI (t483 = true) with c8 | c8
   ·replace c8 := Bool.eq_false_iff.mpr c8
    subst c8
    have H1 : (some false) = some r := by rw [if_neg (show ¬ (false = true) by decide)] at H; exact H
    clear H
    have H := H1
    clear H1
    obtain rfl := Option.some.inj H
    have p480 : 0 ≤ (x9_1 : Int) := sqd
    have q480 : x9_1 < (l0.length : Int) := sqd
    obtain ⟨ad480, e480, hx480_0, hx480_1, hx480_2, hx480_3⟩ := at_T30 HR0.out x9_1 p480 q480
    cases e480
    replace hx480_0 := sqa HB hx480_0
    replace hx480_1 := sqa HB hx480_1
    replace hx480_2 := sqa HB hx480_2
    replace hx480_3 := sqa HB hx480_3
    replace p480 := eq_true p480
    replace q480 := eq_true q480
    try go_wp2_with (first | ((with_reducible refine gate_dst (N := 6) rfl ?_); refine sqx 6 #[.int .i64 0, .int .i64 0, .int .i64 0, .int .i64 0] 30 ?_; intro gb481 hg w14 hbox hb; have BK481 := Aside0.mk hbox; have GW481 := sqg HB hg; have GE481 := sqg HB hg; replace HB := sqs HB hb; clear hb hbox hg; obtain ⟨hcz15_0, hcz15_1, hcz15_2, hcz15_3, hfz15_0, hfz15_1, hfz15_2, hfz15_3⟩ := sqc4 BK481))
    have n0_ : Aside0 (((((w14.setCell ⟨gb481, 0, none⟩ (.int .i64 ((rd_T30 l0 x9_1).f0))).setCell ⟨gb481, 1, none⟩ (.int .i64 ((rd_T30 l0 x9_1).f1))).setCell ⟨gb481, 2, none⟩ (.int .i64 ((rd_T30 l0 x9_1).f2))).setCell ⟨gb481, 3, none⟩ (.int .i64 ((rd_T30 l0 x9_1).f3))).heap[gb481]? = some (.cells #[.int .i64 ((rd_T30 l0 x9_1).f0), .int .i64 ((rd_T30 l0 x9_1).f1), .int .i64 ((rd_T30 l0 x9_1).f2), .int .i64 ((rd_T30 l0 x9_1).f3)] 30 (0, 0))) := ⟨by refine sqt ?_; refine blk_put (cs := #[.int .i64 ((rd_T30 l0 x9_1).f0), .int .i64 ((rd_T30 l0 x9_1).f1), .int .i64 ((rd_T30 l0 x9_1).f2), .int .i64 0]) ?_ 3 _ rfl; refine sqt ?_; refine blk_put (cs := #[.int .i64 ((rd_T30 l0 x9_1).f0), .int .i64 ((rd_T30 l0 x9_1).f1), .int .i64 0, .int .i64 0]) ?_ 2 _ rfl; refine sqt ?_; refine blk_put (cs := #[.int .i64 ((rd_T30 l0 x9_1).f0), .int .i64 0, .int .i64 0, .int .i64 0]) ?_ 1 _ rfl; refine sqt ?_; refine blk_put (cs := #[.int .i64 0, .int .i64 0, .int .i64 0, .int .i64 0]) ?_ 0 _ rfl; refine sqt ?_; exact BK481.out⟩
    have n1_ : Aside0 (Below w.heap.size w ((((w14.setCell ⟨gb481, 0, none⟩ (.int .i64 ((rd_T30 l0 x9_1).f0))).setCell ⟨gb481, 1, none⟩ (.int .i64 ((rd_T30 l0 x9_1).f1))).setCell ⟨gb481, 2, none⟩ (.int .i64 ((rd_T30 l0 x9_1).f2))).setCell ⟨gb481, 3, none⟩ (.int .i64 ((rd_T30 l0 x9_1).f3)))) := sqh HB
    (try clear BK481)
    (try clear HB)
    generalize ((((w14.setCell ⟨gb481, 0, none⟩ (.int .i64 ((rd_T30 l0 x9_1).f0))).setCell ⟨gb481, 1, none⟩ (.int .i64 ((rd_T30 l0 x9_1).f1))).setCell ⟨gb481, 2, none⟩ (.int .i64 ((rd_T30 l0 x9_1).f2))).setCell ⟨gb481, 3, none⟩ (.int .i64 ((rd_T30 l0 x9_1).f3))) = w16 at n0_ n1_ ⊢
    have BK481 := n0_
    have HB := n1_
    clear n0_ n1_
    replace BK481 := Aside0.mk (blk_drew BK481.out)
    replace HB := Aside0.mk (below_drew1 HB.out)
    have p482 : 0 ≤ (x9_1 : Int) := sqd
    have q482 : x9_1 < (l1.length : Int) := sqd
    obtain ⟨ad482, e482, hx482_0, hx482_1, hx482_2, hx482_3⟩ := at_T30 HR1.out x9_1 p482 q482
    have hw482_3 := hx482_3
    have hw482_2 := hx482_2
    have hw482_1 := hx482_1
    have hw482_0 := hx482_0
    cases e482
    replace hx482_0 := sqa HB hx482_0
    replace hx482_1 := sqa HB hx482_1
    replace hx482_2 := sqa HB hx482_2
    replace hx482_3 := sqa HB hx482_3
    replace p482 := eq_true p482
    replace q482 := eq_true q482
    refine start_ (n := 7) (S := fun w' => w'.cell? ⟨gb481, 0, none⟩ = some (.int .i64 ((rd_T30 l0 x9_1).f0)) ∧ w'.cell? ⟨gb481, 1, none⟩ = some (.int .i64 ((rd_T30 l0 x9_1).f1)) ∧ w'.cell? ⟨gb481, 2, none⟩ = some (.int .i64 ((rd_T30 l0 x9_1).f2)) ∧ w'.cell? ⟨gb481, 3, none⟩ = some (.int .i64 ((rd_T30 l0 x9_1).f3)) ∧ w'.cell? (ad482.add ((x9_1).toNat * 4)) = some (.int .i64 ((rd_T30 l1 x9_1).f0)) ∧ w'.cell? ⟨(ad482.add ((x9_1).toNat * 4)).block, (ad482.add ((x9_1).toNat * 4)).off + 1, none⟩ = some (.int .i64 ((rd_T30 l1 x9_1).f1)) ∧ w'.cell? ⟨(ad482.add ((x9_1).toNat * 4)).block, (ad482.add ((x9_1).toNat * 4)).off + 2, none⟩ = some (.int .i64 ((rd_T30 l1 x9_1).f2)) ∧ w'.cell? ⟨(ad482.add ((x9_1).toNat * 4)).block, (ad482.add ((x9_1).toNat * 4)).off + 3, none⟩ = some (.int .i64 ((rd_T30 l1 x9_1).f3))) (ds := []) #[false, false, false, false, false, false, false] (by kernel_rfl) rfl rfl ⟨(blk_cell BK481.out 0).trans rfl, (blk_cell BK481.out 1).trans rfl, (blk_cell BK481.out 2).trans rfl, (blk_cell BK481.out 3).trans rfl, (sqa HB hw482_0 :), (sqa HB hw482_1 :), (sqa HB hw482_2 :), (sqa HB hw482_3 :)⟩ (fun hHeld => ?_)
    generalize w16.drew = w17 at BK481 HB hx482_0 hx482_1 hx482_2 hx482_3 hHeld ⊢
    refine pure_ (i := 1) (N := some 15) (v := ?_) (a' := ?_) #[false, true, false, false, false, false, false] rfl rfl (by kernel_rfl) (fun _ _ _ h => h) (Or.inl ⟨by rfl, ?_⟩) ?_ ?_
    rotate_left
    ·intro w'
     go_simp
     with_reducible rfl
    rotate_left
    ·simp only [Act.put, List.setIfInBounds_toArray, List.set_cons_zero, List.set_cons_succ, i64_w, i32_w]
     rfl
    refine pure_ (i := 2) (N := some 16) (v := ?_) (a' := ?_) #[false, true, true, false, false, false, false] rfl rfl (by kernel_rfl) (fun _ _ _ h => h) (Or.inl ⟨by rfl, ?_⟩) ?_ ?_
    rotate_left
    ·intro w'
     go_simp
     with_reducible rfl
    rotate_left
    ·simp only [Act.put, List.setIfInBounds_toArray, List.set_cons_zero, List.set_cons_succ, i64_w, i32_w]
     rfl
    refine pure_ (i := 3) (N := some 17) (v := ?_) (a' := ?_) #[false, true, true, true, false, false, false] rfl rfl (by kernel_rfl) (fun _ _ _ h => h) (Or.inl ⟨by rfl, ?_⟩) ?_ ?_
    rotate_left
    ·intro w'
     go_simp
     with_reducible rfl
    rotate_left
    ·simp only [Act.put, List.setIfInBounds_toArray, List.set_cons_zero, List.set_cons_succ, i64_w, i32_w]
     rfl
    refine take_ (i := 0) (N := some 14) (v := ?_) (a' := ?_) #[true, true, true, true, false, false, false] rfl rfl (by kernel_rfl) (fun _ _ _ h => h) (Or.inl ⟨by rfl, ?_⟩) hHeld ?_ ?_
    rotate_left
    ·rintro w' ⟨s0, s1, s2, s3, s4, s5, s6, s7⟩
     go_simp
     with_reducible rfl
    rotate_left
    ·simp only [Act.put, List.setIfInBounds_toArray, List.set_cons_zero, List.set_cons_succ, i64_w, i32_w]
     rfl
    refine take_ (i := 4) (N := some 18) (v := ?_) (a' := ?_) #[true, true, true, true, true, false, false] rfl rfl (by kernel_rfl) (fun _ _ _ h => h) (Or.inl ⟨by rfl, ?_⟩) hHeld ?_ ?_
    rotate_left
    ·rintro w' ⟨s0, s1, s2, s3, s4, s5, s6, s7⟩
     go_simp
     with_reducible rfl
    rotate_left
    ·simp only [Act.put, List.setIfInBounds_toArray, List.set_cons_zero, List.set_cons_succ, i64_w, i32_w]
     rfl
    refine one_ (i := 5) (N := some 19) #[true, true, true, true, true, true, false] rfl rfl (by kernel_rfl) (by decide) (fun K hK => ?_)
    refine sqG Try.func81 #[.agg #[.int .i64 ((rd_T30 l0 x9_1).f0), .int .i64 ((rd_T30 l0 x9_1).f1), .int .i64 ((rd_T30 l0 x9_1).f2), .int .i64 ((rd_T30 l0 x9_1).f3)], .agg #[.int .i64 ((rd_T30 l1 x9_1).f0), .int .i64 ((rd_T30 l1 x9_1).f1), .int .i64 ((rd_T30 l1 x9_1).f2), .int .i64 ((rd_T30 l1 x9_1).f3)]] ?_
    with_reducible refine (impl_ValIn.calls k1 ((rd_T30 l0 x9_1).f0) ((rd_T30 l0 x9_1).f1) ((rd_T30 l0 x9_1).f2) ((rd_T30 l0 x9_1).f3) ((rd_T30 l1 x9_1).f0) ((rd_T30 l1 x9_1).f1) ((rd_T30 l1 x9_1).f2) ((rd_T30 l1 x9_1).f3) false _ A7.out).mono ?_
    rintro e w18 ⟨rfl, hb⟩
    refine ⟨_, rfl, ?_⟩
    replace BK481 := sqb BK481 hb
    replace HB := sqs HB hb
    (try clear hb)
    refine hK.out _ _ ⟨(blk_cell BK481.out 0).trans rfl, (blk_cell BK481.out 1).trans rfl, (blk_cell BK481.out 2).trans rfl, (blk_cell BK481.out 3).trans rfl, (sqa HB hw482_0 :), (sqa HB hw482_1 :), (sqa HB hw482_2 :), (sqa HB hw482_3 :)⟩ (fun hHeld => ?_)
    clear hK K
    refine sqnm ?_
    refine pure_ (i := 6) (N := some 20) (v := ?_) (a' := ?_) #[true, true, true, true, true, true, true] rfl rfl (by kernel_rfl) (fun _ _ _ h => h) (Or.inl ⟨by rfl, ?_⟩) ?_ ?_
    rotate_left
    ·intro w'
     go_simp
     with_reducible rfl
    rotate_left
    ·simp only [Act.put, List.setIfInBounds_toArray, List.set_cons_zero, List.set_cons_succ, i64_w, i32_w]
     rfl
    refine done_ (by kernel_rfl) ?_
    try go_wp2
    go_ret
    exact sqe HB
   subst c8
   have H1 : (impl_absValsIn.l0 k1 l1 l0 (l0.length : Int) (wrap64 (x9_1 + 1))) = some r := by rw [if_pos rfl] at H; exact H
   clear H
   have H := H1
   clear H1
   have H' := Aside0.mk H
   clear H
   have p480 : 0 ≤ (x9_1 : Int) := sqd
   have q480 : x9_1 < (l0.length : Int) := sqd
   obtain ⟨ad480, e480, hx480_0, hx480_1, hx480_2, hx480_3⟩ := at_T30 HR0.out x9_1 p480 q480
   cases e480
   replace hx480_0 := sqa HB hx480_0
   replace hx480_1 := sqa HB hx480_1
   replace hx480_2 := sqa HB hx480_2
   replace hx480_3 := sqa HB hx480_3
   replace p480 := eq_true p480
   replace q480 := eq_true q480
   try go_wp2_with (first | ((with_reducible refine gate_dst (N := 6) rfl ?_); refine sqx 6 #[.int .i64 0, .int .i64 0, .int .i64 0, .int .i64 0] 30 ?_; intro gb481 hg w9 hbox hb; have BK481 := Aside0.mk hbox; have GW481 := sqg HB hg; have GE481 := sqg HB hg; replace HB := sqs HB hb; clear hb hbox hg; obtain ⟨hcz10_0, hcz10_1, hcz10_2, hcz10_3, hfz10_0, hfz10_1, hfz10_2, hfz10_3⟩ := sqc4 BK481))
   have n0_ : Aside0 (((((w9.setCell ⟨gb481, 0, none⟩ (.int .i64 ((rd_T30 l0 x9_1).f0))).setCell ⟨gb481, 1, none⟩ (.int .i64 ((rd_T30 l0 x9_1).f1))).setCell ⟨gb481, 2, none⟩ (.int .i64 ((rd_T30 l0 x9_1).f2))).setCell ⟨gb481, 3, none⟩ (.int .i64 ((rd_T30 l0 x9_1).f3))).heap[gb481]? = some (.cells #[.int .i64 ((rd_T30 l0 x9_1).f0), .int .i64 ((rd_T30 l0 x9_1).f1), .int .i64 ((rd_T30 l0 x9_1).f2), .int .i64 ((rd_T30 l0 x9_1).f3)] 30 (0, 0))) := ⟨by refine sqt ?_; refine blk_put (cs := #[.int .i64 ((rd_T30 l0 x9_1).f0), .int .i64 ((rd_T30 l0 x9_1).f1), .int .i64 ((rd_T30 l0 x9_1).f2), .int .i64 0]) ?_ 3 _ rfl; refine sqt ?_; refine blk_put (cs := #[.int .i64 ((rd_T30 l0 x9_1).f0), .int .i64 ((rd_T30 l0 x9_1).f1), .int .i64 0, .int .i64 0]) ?_ 2 _ rfl; refine sqt ?_; refine blk_put (cs := #[.int .i64 ((rd_T30 l0 x9_1).f0), .int .i64 0, .int .i64 0, .int .i64 0]) ?_ 1 _ rfl; refine sqt ?_; refine blk_put (cs := #[.int .i64 0, .int .i64 0, .int .i64 0, .int .i64 0]) ?_ 0 _ rfl; refine sqt ?_; exact BK481.out⟩
   have n1_ : Aside0 (Below w.heap.size w ((((w9.setCell ⟨gb481, 0, none⟩ (.int .i64 ((rd_T30 l0 x9_1).f0))).setCell ⟨gb481, 1, none⟩ (.int .i64 ((rd_T30 l0 x9_1).f1))).setCell ⟨gb481, 2, none⟩ (.int .i64 ((rd_T30 l0 x9_1).f2))).setCell ⟨gb481, 3, none⟩ (.int .i64 ((rd_T30 l0 x9_1).f3)))) := sqh HB
   (try clear BK481)
   (try clear HB)
   generalize ((((w9.setCell ⟨gb481, 0, none⟩ (.int .i64 ((rd_T30 l0 x9_1).f0))).setCell ⟨gb481, 1, none⟩ (.int .i64 ((rd_T30 l0 x9_1).f1))).setCell ⟨gb481, 2, none⟩ (.int .i64 ((rd_T30 l0 x9_1).f2))).setCell ⟨gb481, 3, none⟩ (.int .i64 ((rd_T30 l0 x9_1).f3))) = w11 at n0_ n1_ ⊢
   have BK481 := n0_
   have HB := n1_
   clear n0_ n1_
   replace BK481 := Aside0.mk (blk_drew BK481.out)
   replace HB := Aside0.mk (below_drew1 HB.out)
   have p482 : 0 ≤ (x9_1 : Int) := sqd
   have q482 : x9_1 < (l1.length : Int) := sqd
   obtain ⟨ad482, e482, hx482_0, hx482_1, hx482_2, hx482_3⟩ := at_T30 HR1.out x9_1 p482 q482
   have hw482_3 := hx482_3
   have hw482_2 := hx482_2
   have hw482_1 := hx482_1
   have hw482_0 := hx482_0
   cases e482
   replace hx482_0 := sqa HB hx482_0
   replace hx482_1 := sqa HB hx482_1
   replace hx482_2 := sqa HB hx482_2
   replace hx482_3 := sqa HB hx482_3
   replace p482 := eq_true p482
   replace q482 := eq_true q482
   refine start_ (n := 7) (S := fun w' => w'.cell? ⟨gb481, 0, none⟩ = some (.int .i64 ((rd_T30 l0 x9_1).f0)) ∧ w'.cell? ⟨gb481, 1, none⟩ = some (.int .i64 ((rd_T30 l0 x9_1).f1)) ∧ w'.cell? ⟨gb481, 2, none⟩ = some (.int .i64 ((rd_T30 l0 x9_1).f2)) ∧ w'.cell? ⟨gb481, 3, none⟩ = some (.int .i64 ((rd_T30 l0 x9_1).f3)) ∧ w'.cell? (ad482.add ((x9_1).toNat * 4)) = some (.int .i64 ((rd_T30 l1 x9_1).f0)) ∧ w'.cell? ⟨(ad482.add ((x9_1).toNat * 4)).block, (ad482.add ((x9_1).toNat * 4)).off + 1, none⟩ = some (.int .i64 ((rd_T30 l1 x9_1).f1)) ∧ w'.cell? ⟨(ad482.add ((x9_1).toNat * 4)).block, (ad482.add ((x9_1).toNat * 4)).off + 2, none⟩ = some (.int .i64 ((rd_T30 l1 x9_1).f2)) ∧ w'.cell? ⟨(ad482.add ((x9_1).toNat * 4)).block, (ad482.add ((x9_1).toNat * 4)).off + 3, none⟩ = some (.int .i64 ((rd_T30 l1 x9_1).f3))) (ds := []) #[false, false, false, false, false, false, false] (by kernel_rfl) rfl rfl ⟨(blk_cell BK481.out 0).trans rfl, (blk_cell BK481.out 1).trans rfl, (blk_cell BK481.out 2).trans rfl, (blk_cell BK481.out 3).trans rfl, (sqa HB hw482_0 :), (sqa HB hw482_1 :), (sqa HB hw482_2 :), (sqa HB hw482_3 :)⟩ (fun hHeld => ?_)
   generalize w11.drew = w12 at BK481 HB hx482_0 hx482_1 hx482_2 hx482_3 hHeld ⊢
   refine pure_ (i := 1) (N := some 15) (v := ?_) (a' := ?_) #[false, true, false, false, false, false, false] rfl rfl (by kernel_rfl) (fun _ _ _ h => h) (Or.inl ⟨by rfl, ?_⟩) ?_ ?_
   rotate_left
   ·intro w'
    go_simp
    with_reducible rfl
   rotate_left
   ·simp only [Act.put, List.setIfInBounds_toArray, List.set_cons_zero, List.set_cons_succ, i64_w, i32_w]
    rfl
   refine pure_ (i := 2) (N := some 16) (v := ?_) (a' := ?_) #[false, true, true, false, false, false, false] rfl rfl (by kernel_rfl) (fun _ _ _ h => h) (Or.inl ⟨by rfl, ?_⟩) ?_ ?_
   rotate_left
   ·intro w'
    go_simp
    with_reducible rfl
   rotate_left
   ·simp only [Act.put, List.setIfInBounds_toArray, List.set_cons_zero, List.set_cons_succ, i64_w, i32_w]
    rfl
   refine pure_ (i := 3) (N := some 17) (v := ?_) (a' := ?_) #[false, true, true, true, false, false, false] rfl rfl (by kernel_rfl) (fun _ _ _ h => h) (Or.inl ⟨by rfl, ?_⟩) ?_ ?_
   rotate_left
   ·intro w'
    go_simp
    with_reducible rfl
   rotate_left
   ·simp only [Act.put, List.setIfInBounds_toArray, List.set_cons_zero, List.set_cons_succ, i64_w, i32_w]
    rfl
   refine take_ (i := 0) (N := some 14) (v := ?_) (a' := ?_) #[true, true, true, true, false, false, false] rfl rfl (by kernel_rfl) (fun _ _ _ h => h) (Or.inl ⟨by rfl, ?_⟩) hHeld ?_ ?_
   rotate_left
   ·rintro w' ⟨s0, s1, s2, s3, s4, s5, s6, s7⟩
    go_simp
    with_reducible rfl
   rotate_left
   ·simp only [Act.put, List.setIfInBounds_toArray, List.set_cons_zero, List.set_cons_succ, i64_w, i32_w]
    rfl
   refine take_ (i := 4) (N := some 18) (v := ?_) (a' := ?_) #[true, true, true, true, true, false, false] rfl rfl (by kernel_rfl) (fun _ _ _ h => h) (Or.inl ⟨by rfl, ?_⟩) hHeld ?_ ?_
   rotate_left
   ·rintro w' ⟨s0, s1, s2, s3, s4, s5, s6, s7⟩
    go_simp
    with_reducible rfl
   rotate_left
   ·simp only [Act.put, List.setIfInBounds_toArray, List.set_cons_zero, List.set_cons_succ, i64_w, i32_w]
    rfl
   refine one_ (i := 5) (N := some 19) #[true, true, true, true, true, true, false] rfl rfl (by kernel_rfl) (by decide) (fun K hK => ?_)
   refine sqG Try.func81 #[.agg #[.int .i64 ((rd_T30 l0 x9_1).f0), .int .i64 ((rd_T30 l0 x9_1).f1), .int .i64 ((rd_T30 l0 x9_1).f2), .int .i64 ((rd_T30 l0 x9_1).f3)], .agg #[.int .i64 ((rd_T30 l1 x9_1).f0), .int .i64 ((rd_T30 l1 x9_1).f1), .int .i64 ((rd_T30 l1 x9_1).f2), .int .i64 ((rd_T30 l1 x9_1).f3)]] ?_
   with_reducible refine (impl_ValIn.calls k1 ((rd_T30 l0 x9_1).f0) ((rd_T30 l0 x9_1).f1) ((rd_T30 l0 x9_1).f2) ((rd_T30 l0 x9_1).f3) ((rd_T30 l1 x9_1).f0) ((rd_T30 l1 x9_1).f1) ((rd_T30 l1 x9_1).f2) ((rd_T30 l1 x9_1).f3) true _ A7.out).mono ?_
   rintro e w13 ⟨rfl, hb⟩
   refine ⟨_, rfl, ?_⟩
   replace BK481 := sqb BK481 hb
   replace HB := sqs HB hb
   (try clear hb)
   refine hK.out _ _ ⟨(blk_cell BK481.out 0).trans rfl, (blk_cell BK481.out 1).trans rfl, (blk_cell BK481.out 2).trans rfl, (blk_cell BK481.out 3).trans rfl, (sqa HB hw482_0 :), (sqa HB hw482_1 :), (sqa HB hw482_2 :), (sqa HB hw482_3 :)⟩ (fun hHeld => ?_)
   clear hK K
   refine sqnm ?_
   refine pure_ (i := 6) (N := some 20) (v := ?_) (a' := ?_) #[true, true, true, true, true, true, true] rfl rfl (by kernel_rfl) (fun _ _ _ h => h) (Or.inl ⟨by rfl, ?_⟩) ?_ ?_
   rotate_left
   ·intro w'
    go_simp
    with_reducible rfl
   rotate_left
   ·simp only [Act.put, List.setIfInBounds_toArray, List.set_cons_zero, List.set_cons_succ, i64_w, i32_w]
    rfl
   refine done_ (by kernel_rfl) ?_
   try go_wp2
   go_roundg k1
   case measure => have := HK1.out; omega
   case rel => exact ⟨(wrap64 (x9_1 + 1)), (by first | rfl | (simp; done) | (simp [*]; done)), H', ⟨by have := HK1.out; omega⟩, sqh HB⟩

end Go.Proofs.Ytkekcenlleebeaa.PFnExactAbsIn
