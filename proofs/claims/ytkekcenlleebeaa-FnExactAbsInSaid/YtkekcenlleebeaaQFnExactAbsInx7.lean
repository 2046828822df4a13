/- Functions of the program as plain Lean functions, and that calls of them come to what these tell. Conditions: those in each law. -/
import Derived.Test.YtkekcenlleebeaaSq
import Derived.Test.YtkekcenlleebeaaDFnExactAbsIn
import Derived.Test.YtkekcenlleebeaaQFnExactAbsInx0
import Derived.Test.YtkekcenlleebeaaQFnExactAbsInx6
namespace Go.Proofs.Ytkekcenlleebeaa.PFnExactAbsIn
open Go.RowKit Go.Proofs.Ytkekcenlleebeaa.Sq Go.Proofs.YtkekcenlleebeaaW.PrintWords Go.Proofs.YtkekcenlleebeaaW.PrintLast Go.Proofs.YtkekcenlleebeaaW.PrintMore
attribute [local go_sem] max2_int min2_int max_two min_two max_three min_three max_four min_four   -- for this text's walks alone
set_option linter.unusedVariables false
set_option linter.unusedSimpArgs false

/-! ### spec_GapsOk: function 41 -/
set_option maxHeartbeats 8000000 in
set_option maxRecDepth 100000 in
theorem spec_GapsOk.calls (k : Nat) (a0_0 : Int) (A0_1 : Option Addr) (c0_1 : Nat) (l0_1 : List Int) (r : Bool) (w : World) (hr0_1 : Kd.C (Kd.int .i64) w A0_1 l0_1.length l0_1) (hc0_1 : l0_1.length ≤ c0_1) (h : spec_GapsOk.f k a0_0 l0_1 = some r) :
  Calls Try.prog 41 #[.agg #[.int .i64 a0_0, .slice A0_1 l0_1.length c0_1]] w fun e w' => e = .returned (.bool r) ∧ Below w.heap.size w w' := by
 have hu41 := Try.underlying41
 have HR0_1 := Aside0.mk hr0_1
 have HC0_1 := Aside0.mk hc0_1
 clear hr0_1 hc0_1
 have HB := Aside0.mk (Below.refl w.heap.size w)
 have H : ((spec_l1In.f a0_0 0 12).bind fun t200 => (if t200 = true then (spec_GapsOk.j0 k ((l0_1.length : Int) != (wrap64 ((wrap64 (a0_0 + 1)) * (wrap64 (a0_0 + 1))))) a0_0 l0_1) else (spec_GapsOk.j0 k true a0_0 l0_1))) = some r := h
 clear h
 have HC2 := Aside0.mk H
 clear H
 go_enter Try.func41, Try.ntmps41
 go_upto_region 1 with (first | ((with_reducible refine gate_dst (N := 1) rfl ?_); (try (refine gate_guard (by rfl) ?_; dsimp only)); refine sqx 1 #[.int .i64 a0_0, .slice A0_1 l0_1.length c0_1] 41 ?_; intro gb199 hg w3 hbox hb; have BK199 := Aside0.mk hbox; have GW199 := sqg HB hg; have GE199 := sqg HB hg; replace HB := sqs HB hb; clear hb hbox hg))
 (try simp only [Act.put, List.setIfInBounds_toArray, List.set_cons_zero, List.set_cons_succ])
 go_cut [22] (fun v22 wc => ∃ (kq : Nat) (x22_1 : Bool), v22 = .bool x22_1 ∧ Aside0 (spec_GapsOk.j0 kq x22_1 a0_0 l0_1 = some r) ∧ Aside0 (kq ≤ k) ∧ Aside0 (wc.heap[gb199]? = some (.cells #[.int .i64 a0_0, (.slice A0_1 l0_1.length c0_1)] 41 (0, 0))) ∧ Aside0 (Below w.heap.size w wc))
 case first =>
  have H := HC2.out
  clear HC2
  replace H := sqbi H
  obtain ⟨t200, A4, H⟩ := H
  replace H : (if t200 = true then (spec_GapsOk.j0 k ((l0_1.length : Int) != (wrap64 ((wrap64 (a0_0 + 1)) * (wrap64 (a0_0 + 1))))) a0_0 l0_1) else (spec_GapsOk.j0 k true a0_0 l0_1)) = some r := H
  rcases sqI (t200 = true) with c5 | c5
  ·replace c5 := Bool.eq_false_iff.mpr c5
   subst c5
   have H1 : (spec_GapsOk.j0 k true a0_0 l0_1) = some r := by rw [if_neg (show ¬ (false = true) by decide)] at H; exact H
   clear H
   have H := H1
   clear H1
   have H' := Aside0.mk H
   clear H
   obtain ⟨hcz7_0, hcz7_1, hfz7_0, hfz7_1⟩ := sqc2 BK199
   go_wp2_with (first | ((with_reducible refine gate_callee (f := 105) rfl ?_); refine sqL (some 8) Try.func105 #[.int .i64 a0_0, .int .i64 0, .int .i64 12] ?_; (with_reducible refine (spec_l1In.calls a0_0 0 12 false _ A4.out).mono ?_); rintro e w' ⟨rfl, ⟨nd, rfl⟩⟩; refine ⟨_, rfl, ?_⟩))
   go_meet
   case rel => exact ⟨_, (true), (by first | rfl | (simp; done) | (simp [*]; done)), H', ⟨by first | omega | exact Nat.le_refl _⟩, sqk BK199, sqh HB⟩
  subst c5
  have H1 : (spec_GapsOk.j0 k ((l0_1.length : Int) != (wrap64 ((wrap64 (a0_0 + 1)) * (wrap64 (a0_0 + 1))))) a0_0 l0_1) = some r := by rw [if_pos rfl] at H; exact H
  clear H
  have H := H1
  clear H1
  have H' := Aside0.mk H
  clear H
  obtain ⟨hcz6_0, hcz6_1, hfz6_0, hfz6_1⟩ := sqc2 BK199
  go_wp2_with (first | ((with_reducible refine gate_callee (f := 105) rfl ?_); refine sqL (some 8) Try.func105 #[.int .i64 a0_0, .int .i64 0, .int .i64 12] ?_; (with_reducible refine (spec_l1In.calls a0_0 0 12 true _ A4.out).mono ?_); rintro e w' ⟨rfl, ⟨nd, rfl⟩⟩; refine ⟨_, rfl, ?_⟩))
  go_meet
  case rel => exact ⟨_, (((l0_1.length : Int) != (wrap64 ((wrap64 (a0_0 + 1)) * (wrap64 (a0_0 + 1)))))), (by first | rfl | (simp; done) | (simp [*]; done)), H', ⟨by first | omega | exact Nat.le_refl _⟩, sqk BK199, sqh HB⟩
 case rest =>
  clear HC2
  obtain ⟨kq, x22_1, rfl, HA, HJ1, BK199, HB⟩ := hcut
  cases kq with
  | zero => exact absurd HA.out (by simp [spec_GapsOk.j0])
  | succ kj1 =>
   have H := HA.out
   clear HA
   simp only [spec_GapsOk.j0] at H
   by_cases c8 : x22_1 = true
   ·subst c8
    have H1 : (some false) = some r := by rw [if_pos rfl] at H; exact H
    clear H
    have H := H1
    clear H1
    obtain rfl := Option.some.inj H
    go_wp2
    go_ret
    exact sqe HB
   replace c8 := Bool.eq_false_iff.mpr c8
   subst c8
   have H1 : (spec_GapsOk.l0 kj1 0 a0_0 l0_1) = some r := by rw [if_neg (show ¬ (false = true) by decide)] at H; exact H
   clear H
   have H := H1
   clear H1
   have H' := Aside0.mk H
   clear H
   go_wp2
   go_loopg [3] kj1 (fun kq v3 w' => ∃ (x3_2 : Int), v3 = .int .i64 x3_2 ∧ Aside0 (spec_GapsOk.l0 kq x3_2 a0_0 l0_1 = some r) ∧ Aside0 (kq ≤ kj1) ∧ Aside0 (w'.heap[gb199]? = some (.cells #[.int .i64 a0_0, (.slice A0_1 l0_1.length c0_1)] 41 (0, 0))) ∧ Aside0 (Below w.heap.size w w'))
   case atStart => exact ⟨(0), (by first | rfl | (simp; done) | (simp [*]; done)), H', ⟨Nat.le_refl _⟩, sqk BK199, sqh HB⟩
   case round =>
    clear H'
    obtain ⟨x3_2, rfl, HA, HK2, BK199, HB⟩ := hrel
    cases gk with
    | zero => exact absurd HA.out (by simp [spec_GapsOk.l0])
    | succ k2 =>
     have H := HA.out
     clear HA
     simp only [spec_GapsOk.l0] at H
     replace H := sqi H
     rcases H with ⟨c9, H⟩ | ⟨c9, H⟩
     ·have c9b0 := decide_eq_false c9
      clear c9
      obtain rfl := Option.some.inj H
      obtain ⟨hcz26_0, hcz26_1, hfz26_0, hfz26_1⟩ := sqc2 BK199
      go_wp2
      go_ret
      exact sqe HB
     have c9b0 := decide_eq_true c9
     clear c9
     have H' := Aside0.mk H
     clear H
     obtain ⟨hcz10_0, hcz10_1, hfz10_0, hfz10_1⟩ := sqc2 BK199
     go_wp2
     go_loopg [4] k2 (fun kq v4 w' => ∃ (x4_3 : Int), v4 = .int .i64 x4_3 ∧ Aside0 (spec_GapsOk.l1 kq x3_2 x4_3 a0_0 l0_1 = some r) ∧ Aside0 (kq ≤ k2) ∧ Aside0 (w'.heap[gb199]? = some (.cells #[.int .i64 a0_0, (.slice A0_1 l0_1.length c0_1)] 41 (0, 0))) ∧ Aside0 (Below w.heap.size w w'))
     case atStart => exact ⟨(0), (by first | rfl | (simp; done) | (simp [*]; done)), H', ⟨Nat.le_refl _⟩, sqk BK199, sqh HB⟩
     case round =>
      clear H'
      obtain ⟨x4_3, rfl, HA, HK3, BK199, HB⟩ := hrel
      cases gk with
      | zero => exact absurd HA.out (by simp [spec_GapsOk.l1])
      | succ k3 =>
       have H := HA.out
       clear HA
       simp only [spec_GapsOk.l1] at H
       replace H := sqi H
       rcases H with ⟨c11, H⟩ | ⟨c11, H⟩
       ·have c11b0 := decide_eq_false c11
        clear c11
        have H' := Aside0.mk H
        clear H
        obtain ⟨hcz25_0, hcz25_1, hfz25_0, hfz25_1⟩ := sqc2 BK199
        go_wp2
        go_roundg k3
        case measure => have := HJ1.out; have := HK2.out; have := HK3.out; omega
        case rel => exact ⟨(wrap64 (x3_2 + 1)), (by first | rfl | (simp; done) | (simp [*]; done)), H', ⟨by have := HJ1.out; have := HK2.out; have := HK3.out; omega⟩, sqk BK199, sqh HB⟩
       have c11b0 := decide_eq_true c11
       clear c11
       replace H := sqbi H
       obtain ⟨t201, A12, H⟩ := H
       replace H : ((spec_l1In.f t201 (-1099511627776) 1099511627776).bind fun t202 => (if t202 = true then (if x3_2 = x4_3 then (if t201 = 0 then (spec_GapsOk.l1 k3 x3_2 (wrap64 (x4_3 + 1)) a0_0 l0_1) else (some false)) else (spec_GapsOk.l1 k3 x3_2 (wrap64 (x4_3 + 1)) a0_0 l0_1)) else (some false))) = some r := H
       replace H := sqbi H
       obtain ⟨t202, A13, H⟩ := H
       replace H : (if t202 = true then (if x3_2 = x4_3 then (if t201 = 0 then (spec_GapsOk.l1 k3 x3_2 (wrap64 (x4_3 + 1)) a0_0 l0_1) else (some false)) else (spec_GapsOk.l1 k3 x3_2 (wrap64 (x4_3 + 1)) a0_0 l0_1)) else (some false)) = some r := H
       rcases sqI (t202 = true) with c14 | c14
       ·replace c14 := Bool.eq_false_iff.mpr c14
        subst c14
        have H1 : (some false) = some r := by rw [if_neg (show ¬ (false = true) by decide)] at H; exact H
        clear H
        have H := H1
        clear H1
        obtain rfl := Option.some.inj H
        obtain ⟨hcz23_0, hcz23_1, hfz23_0, hfz23_1⟩ := sqc2 BK199
        go_wp2_with (first | ((with_reducible refine gate_callee (f := 115) rfl ?_); refine sqL (some 38) Try.func115 #[.agg #[.int .i64 a0_0, .slice A0_1 l0_1.length c0_1], .int .i64 x3_2, .int .i64 x4_3] ?_; (with_reducible refine (spec_l11At.calls a0_0 _ _ l0_1 x3_2 x4_3 t201 _ ?side1 ?side2 A12.out).mono ?_); (case side1 => exact sqC (Kd.C_below HR0_1.out HB.out)); (case side2 => exact HC0_1.out); rintro e w24 ⟨rfl, hb⟩; refine ⟨_, rfl, ?_⟩; replace BK199 := sqb BK199 hb; replace HB := sqs HB hb; (try clear hb)) | ((with_reducible refine gate_callee (f := 105) rfl ?_); refine sqL (some 40) Try.func105 #[.int .i64 t201, .int .i64 (-1099511627776), .int .i64 1099511627776] ?_; (with_reducible refine (spec_l1In.calls t201 (-1099511627776) 1099511627776 false _ A13.out).mono ?_); rintro e w' ⟨rfl, ⟨nd, rfl⟩⟩; refine ⟨_, rfl, ?_⟩))
        go_ret
        exact sqe HB
       subst c14
       have H1 : (if x3_2 = x4_3 then (if t201 = 0 then (spec_GapsOk.l1 k3 x3_2 (wrap64 (x4_3 + 1)) a0_0 l0_1) else (some false)) else (spec_GapsOk.l1 k3 x3_2 (wrap64 (x4_3 + 1)) a0_0 l0_1)) = some r := by rw [if_pos rfl] at H; exact H
       clear H
       have H := H1
       clear H1
       replace H := sqi H
       rcases H with ⟨c15, H⟩ | ⟨c15, H⟩
       ·have c15b0 : (x3_2 == x4_3) = false := beq_eq_false_iff_ne.mpr c15
        have c15b1 : (x3_2 != x4_3) = true := bne_iff_ne.mpr c15
        have H' := Aside0.mk H
        clear H
        obtain ⟨hcz21_0, hcz21_1, hfz21_0, hfz21_1⟩ := sqc2 BK199
        go_wp2_with (first | ((with_reducible refine gate_callee (f := 115) rfl ?_); refine sqL (some 38) Try.func115 #[.agg #[.int .i64 a0_0, .slice A0_1 l0_1.length c0_1], .int .i64 x3_2, .int .i64 x4_3] ?_; (with_reducible refine (spec_l11At.calls a0_0 _ _ l0_1 x3_2 x4_3 t201 _ ?side1 ?side2 A12.out).mono ?_); (case side1 => exact sqC (Kd.C_below HR0_1.out HB.out)); (case side2 => exact HC0_1.out); rintro e w22 ⟨rfl, hb⟩; refine ⟨_, rfl, ?_⟩; replace BK199 := sqb BK199 hb; replace HB := sqs HB hb; (try clear hb)) | ((with_reducible refine gate_callee (f := 105) rfl ?_); refine sqL (some 40) Try.func105 #[.int .i64 t201, .int .i64 (-1099511627776), .int .i64 1099511627776] ?_; (with_reducible refine (spec_l1In.calls t201 (-1099511627776) 1099511627776 true _ A13.out).mono ?_); rintro e w' ⟨rfl, ⟨nd, rfl⟩⟩; refine ⟨_, rfl, ?_⟩))
        go_roundg k3
        case measure => have := HJ1.out; have := HK2.out; have := HK3.out; omega
        case rel => exact ⟨(wrap64 (x4_3 + 1)), (by first | rfl | (simp; done) | (simp [*]; done)), H', ⟨by have := HJ1.out; have := HK2.out; have := HK3.out; omega⟩, sqk BK199, sqh HB⟩
       have c15b0 : (x3_2 == x4_3) = true := beq_iff_eq.mpr c15
       have c15b1 : (x3_2 != x4_3) = false := bne_eq_false_iff_eq.mpr c15
       clear c15
       replace H := sqi H
       rcases H with ⟨c16, H⟩ | ⟨c16, H⟩
       ·have c16b0 : (t201 == 0) = false := beq_eq_false_iff_ne.mpr c16
        have c16b1 : (t201 != 0) = true := bne_iff_ne.mpr c16
        obtain rfl := Option.some.inj H
        obtain ⟨hcz19_0, hcz19_1, hfz19_0, hfz19_1⟩ := sqc2 BK199
        go_wp2_with (first | ((with_reducible refine gate_callee (f := 115) rfl ?_); refine sqL (some 38) Try.func115 #[.agg #[.int .i64 a0_0, .slice A0_1 l0_1.length c0_1], .int .i64 x3_2, .int .i64 x4_3] ?_; (with_reducible refine (spec_l11At.calls a0_0 _ _ l0_1 x3_2 x4_3 t201 _ ?side1 ?side2 A12.out).mono ?_); (case side1 => exact sqC (Kd.C_below HR0_1.out HB.out)); (case side2 => exact HC0_1.out); rintro e w20 ⟨rfl, hb⟩; refine ⟨_, rfl, ?_⟩; replace BK199 := sqb BK199 hb; replace HB := sqs HB hb; (try clear hb)) | ((with_reducible refine gate_callee (f := 105) rfl ?_); refine sqL (some 40) Try.func105 #[.int .i64 t201, .int .i64 (-1099511627776), .int .i64 1099511627776] ?_; (with_reducible refine (spec_l1In.calls t201 (-1099511627776) 1099511627776 true _ A13.out).mono ?_); rintro e w' ⟨rfl, ⟨nd, rfl⟩⟩; refine ⟨_, rfl, ?_⟩))
        go_ret
        exact sqe HB
       have c16b0 : (t201 == 0) = true := beq_iff_eq.mpr c16
       have c16b1 : (t201 != 0) = false := bne_eq_false_iff_eq.mpr c16
       clear c16
       have H' := Aside0.mk H
       clear H
       obtain ⟨hcz17_0, hcz17_1, hfz17_0, hfz17_1⟩ := sqc2 BK199
       go_wp2_with (first | ((with_reducible refine gate_callee (f := 115) rfl ?_); refine sqL (some 38) Try.func115 #[.agg #[.int .i64 a0_0, .slice A0_1 l0_1.length c0_1], .int .i64 x3_2, .int .i64 x4_3] ?_; (with_reducible refine (spec_l11At.calls a0_0 _ _ l0_1 x3_2 x4_3 t201 _ ?side1 ?side2 A12.out).mono ?_); (case side1 => exact sqC (Kd.C_below HR0_1.out HB.out)); (case side2 => exact HC0_1.out); rintro e w18 ⟨rfl, hb⟩; refine ⟨_, rfl, ?_⟩; replace BK199 := sqb BK199 hb; replace HB := sqs HB hb; (try clear hb)) | ((with_reducible refine gate_callee (f := 105) rfl ?_); refine sqL (some 40) Try.func105 #[.int .i64 t201, .int .i64 (-1099511627776), .int .i64 1099511627776] ?_; (with_reducible refine (spec_l1In.calls t201 (-1099511627776) 1099511627776 true _ A13.out).mono ?_); rintro e w' ⟨rfl, ⟨nd, rfl⟩⟩; refine ⟨_, rfl, ?_⟩))
       go_roundg k3
       case measure => have := HJ1.out; have := HK2.out; have := HK3.out; omega
       case rel => exact ⟨(wrap64 (x4_3 + 1)), (by first | rfl | (simp; done) | (simp [*]; done)), H', ⟨by have := HJ1.out; have := HK2.out; have := HK3.out; omega⟩, sqk BK199, sqh HB⟩

/-! ### spec_NumOk: function 56 -/
set_option maxHeartbeats 8000000 in
set_option maxRecDepth 100000 in
theorem spec_NumOk.calls (a0 : Int) (r : Bool) (w : World) (h : spec_NumOk.f a0 = some r) :
  Calls Try.prog 56 #[.int .i64 a0] w fun e w' => e = .returned (.bool r) ∧ Drawn0 w w' := by
 have H : ((spec_l1In.f a0 (-2147483648) 2147483647).bind fun t203 => (some t203)) = some r := h
 clear h
 replace H := sqbi H
 obtain ⟨t203, A2, H⟩ := H
 replace H : (some t203) = some r := H
 obtain rfl := Option.some.inj H
 go_enter Try.func56, Try.ntmps56
 go_wp2_with (first | ((with_reducible refine gate_callee (f := 105) rfl ?_); refine sqL (some 4) Try.func105 #[.int .i64 a0, .int .i64 (-2147483648), .int .i64 2147483647] ?_; (with_reducible refine (spec_l1In.calls a0 (-2147483648) 2147483647 t203 _ A2.out).mono ?_); rintro e w' ⟨rfl, ⟨nd, rfl⟩⟩; refine ⟨_, rfl, ?_⟩))
 go_ret
 exact ⟨by first | rfl | (simp; done) | (simp [*]; done), by repeat (first | exact Drawn0.refl _ | apply Drawn0.step)⟩

/-! ### spec_l8None: function 99 -/
set_option maxHeartbeats 8000000 in
set_option maxRecDepth 100000 in
theorem spec_l8None.calls  (r1 : Int) (r2 : Int) (w : World) (h : spec_l8None.f  = some (r1, r2)) :
  Calls Try.prog 99 #[] w fun e w' => e = .returned (.agg #[.int .i64 r1, .int .i64 r2]) ∧ Below w.heap.size w w' := by
 have hu24 := Try.underlying24
 have HB := Aside0.mk (Below.refl w.heap.size w)
 have H : (some (1, 0)) = some (r1, r2) := h
 clear h
 simp only [Option.some.injEq, Prod.mk.injEq] at H
 obtain ⟨rfl, rfl⟩ := H
 go_enter Try.func99, Try.ntmps99
 go_wp2_with (first | ((with_reducible refine gate_dst (N := 0) rfl ?_); refine sqx 0 #[.int .i64 0, .int .i64 0] 24 ?_; intro gb204 hg w1 hbox hb; have BK204 := Aside0.mk hbox; have GW204 := sqg HB hg; have GE204 := sqg HB hg; replace HB := sqs HB hb; clear hb hbox hg; obtain ⟨hcz2_0, hcz2_1, hfz2_0, hfz2_1⟩ := sqc2 BK204))
 refine bodyPost_ret (results_cell_row rfl _ _ gb204 24 #[.int .i64 1, .int .i64 0] (0, 0) _ rfl (by refine sqt ?_; refine blk_put (cs := #[.int .i64 1, .int .i64 0]) ?_ 1 _ rfl; refine sqt ?_; refine blk_put (cs := #[.int .i64 0, .int .i64 0]) ?_ 0 _ rfl; refine sqt ?_; exact BK204.out) Try.underlying24 rfl (by kernel_rfl)) rfl ?_
 exact sqe HB

end Go.Proofs.Ytkekcenlleebeaa.PFnExactAbsIn
