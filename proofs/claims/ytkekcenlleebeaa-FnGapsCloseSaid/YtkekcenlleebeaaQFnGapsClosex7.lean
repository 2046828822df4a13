/- Functions of the program as plain Lean functions, and that calls of them come to what these tell. Conditions: those in each law. -/
import Derived.Test.YtkekcenlleebeaaSq
import Derived.Test.YtkekcenlleebeaaDFnGapsClose
import Derived.Test.YtkekcenlleebeaaQFnGapsClosex0
import Derived.Test.YtkekcenlleebeaaQFnGapsClosex2
import Derived.Test.YtkekcenlleebeaaQFnGapsClosex6
namespace Go.Proofs.Ytkekcenlleebeaa.PFnGapsClose
open Go.RowKit Go.Proofs.Ytkekcenlleebeaa.Sq Go.Proofs.YtkekcenlleebeaaW.PrintWords Go.Proofs.YtkekcenlleebeaaW.PrintLast Go.Proofs.YtkekcenlleebeaaW.PrintMore
attribute [local go_sem] max2_int min2_int max_two min_two max_three min_three max_four min_four   -- for this text's walks alone
set_option linter.unusedVariables false
set_option linter.unusedSimpArgs false

/-! ### spec_GapsOk: function 41 -/
set_option maxHeartbeats 8000000 in
set_option maxRecDepth 100000 in
theorem spec_GapsOk.calls (k : Nat) (a0_0 : Int) (A0_1 : Option Addr) (c0_1 : Nat) (l0_1 : List Int) (r : Bool) (w : World) (hr0_1 : Kd.C (Kd.int .i64) w A0_1 l0_1.length l0_1) (hc0_1 : l0_1.length ≤ c0_1) (h : spec_GapsOk.f k a0_0 l0_1 = some r) :
  Calls Try.prog 41 #[.agg #[.int .i64 a0_0, .slice A0_1 l0_1.length c0_1]] w fun e w' => e = .returned (.bool r) ∧ Below w.heap.size w w' := by
 have hu41 := Try.underlying41
 have HR0_1 := Aside0.mk hr0_1
 have HC0_1 := Aside0.mk hc0_1
 clear hr0_1 hc0_1
 have HB := Aside0.mk (Below.refl w.heap.size w)
 have H : ((spec_l1In.f a0_0 0 12).bind fun t254 => (if t254 = true then (spec_GapsOk.j0 k ((l0_1.length : Int) != (wrap64 ((wrap64 (a0_0 + 1)) * (wrap64 (a0_0 + 1))))) a0_0 l0_1) else (spec_GapsOk.j0 k true a0_0 l0_1))) = some r := h
 clear h
 have HC2 := Aside0.mk H
 clear H
 go_enter Try.func41, Try.ntmps41
 go_upto_region 1 with (first | ((with_reducible refine gate_dst (N := 1) rfl ?_); (try (refine gate_guard (by rfl) ?_; dsimp only)); refine sqx 1 #[.int .i64 a0_0, .slice A0_1 l0_1.length c0_1] 41 ?_; intro gb253 hg w3 hbox hb; have BK253 := Aside0.mk hbox; have GW253 := sqg HB hg; have GE253 := sqg HB hg; replace HB := sqs HB hb; clear hb hbox hg))
 (try simp only [Act.put, List.setIfInBounds_toArray, List.set_cons_zero, List.set_cons_succ])
 go_cut [22] (fun v22 wc => ∃ (kq : Nat) (x22_1 : Bool), v22 = .bool x22_1 ∧ Aside0 (spec_GapsOk.j0 kq x22_1 a0_0 l0_1 = some r) ∧ Aside0 (kq ≤ k) ∧ Aside0 (wc.heap[gb253]? = some (.cells #[.int .i64 a0_0, (.slice A0_1 l0_1.length c0_1)] 41 (0, 0))) ∧ Aside0 (Below w.heap.size w wc))
 case first =>
  have H := HC2.out
  clear HC2
  replace H := sqbi H
  obtain ⟨t254, A4, H⟩ := H
  replace H : (if t254 = true then (spec_GapsOk.j0 k ((l0_1.length : Int) != (wrap64 ((wrap64 (a0_0 + 1)) * (wrap64 (a0_0 + 1))))) a0_0 l0_1) else (spec_GapsOk.j0 k true a0_0 l0_1)) = some r := H
  rcases sqI (t254 = true) with c5 | c5
  ·replace c5 := Bool.eq_false_iff.mpr c5
   subst c5
   have H1 : (spec_GapsOk.j0 k true a0_0 l0_1) = some r := by rw [if_neg (show ¬ (false = true) by decide)] at H; exact H
   clear H
   have H := H1
   clear H1
   have H' := Aside0.mk H
   clear H
   obtain ⟨hcz7_0, hcz7_1, hfz7_0, hfz7_1⟩ := sqc2 BK253
   go_wp2_with (first | ((with_reducible refine gate_callee (f := 105) rfl ?_); refine sqL (some 8) Try.func105 #[.int .i64 a0_0, .int .i64 0, .int .i64 12] ?_; (with_reducible refine (spec_l1In.calls a0_0 0 12 false _ A4.out).mono ?_); rintro e w' ⟨rfl, ⟨nd, rfl⟩⟩; refine ⟨_, rfl, ?_⟩))
   go_meet
   case rel => exact ⟨_, (true), (by first | rfl | (simp; done) | (simp [*]; done)), H', ⟨by first | omega | exact Nat.le_refl _⟩, sqk BK253, sqh HB⟩
  subst c5
  have H1 : (spec_GapsOk.j0 k ((l0_1.length : Int) != (wrap64 ((wrap64 (a0_0 + 1)) * (wrap64 (a0_0 + 1))))) a0_0 l0_1) = some r := by rw [if_pos rfl] at H; exact H
  clear H
  have H := H1
  clear H1
  have H' := Aside0.mk H
  clear H
  obtain ⟨hcz6_0, hcz6_1, hfz6_0, hfz6_1⟩ := sqc2 BK253
  go_wp2_with (first | ((with_reducible refine gate_callee (f := 105) rfl ?_); refine sqL (some 8) Try.func105 #[.int .i64 a0_0, .int .i64 0, .int .i64 12] ?_; (with_reducible refine (spec_l1In.calls a0_0 0 12 true _ A4.out).mono ?_); rintro e w' ⟨rfl, ⟨nd, rfl⟩⟩; refine ⟨_, rfl, ?_⟩))
  go_meet
  case rel => exact ⟨_, (((l0_1.length : Int) != (wrap64 ((wrap64 (a0_0 + 1)) * (wrap64 (a0_0 + 1)))))), (by first | rfl | (simp; done) | (simp [*]; done)), H', ⟨by first | omega | exact Nat.le_refl _⟩, sqk BK253, sqh HB⟩
 case rest =>
  clear HC2
  obtain ⟨kq, x22_1, rfl, HA, HJ1, BK253, HB⟩ := hcut
  cases kq with
  | zero => exact absurd HA.out (by simp [spec_GapsOk.j0])
  | succ kj1 =>
   have H := HA.out
   clear HA
   simp only [spec_GapsOk.j0] at H
   by_cases c8 : x22_1 = true
   ·subst c8
    have H1 : (some false) = some r := by rw [if_pos rfl] at H; exact H
    clear H
    have H := H1
    clear H1
    obtain rfl := Option.some.inj H
    go_wp2
    go_ret
    exact sqe HB
   replace c8 := Bool.eq_false_iff.mpr c8
   subst c8
   have H1 : (spec_GapsOk.l0 kj1 0 a0_0 l0_1) = some r := by rw [if_neg (show ¬ (false = true) by decide)] at H; exact H
   clear H
   have H := H1
   clear H1
   have H' := Aside0.mk H
   clear H
   go_wp2
   go_loopg [3] kj1 (fun kq v3 w' => ∃ (x3_2 : Int), v3 = .int .i64 x3_2 ∧ Aside0 (spec_GapsOk.l0 kq x3_2 a0_0 l0_1 = some r) ∧ Aside0 (kq ≤ kj1) ∧ Aside0 (w'.heap[gb253]? = some (.cells #[.int .i64 a0_0, (.slice A0_1 l0_1.length c0_1)] 41 (0, 0))) ∧ Aside0 (Below w.heap.size w w'))
   case atStart => exact ⟨(0), (by first | rfl | (simp; done) | (simp [*]; done)), H', ⟨Nat.le_refl _⟩, sqk BK253, sqh HB⟩
   case round =>
    clear H'
    obtain ⟨x3_2, rfl, HA, HK2, BK253, HB⟩ := hrel
    cases gk with
    | zero => exact absurd HA.out (by simp [spec_GapsOk.l0])
    | succ k2 =>
     have H := HA.out
     clear HA
     simp only [spec_GapsOk.l0] at H
     replace H := sqi H
     rcases H with ⟨c9, H⟩ | ⟨c9, H⟩
     ·have c9b0 := decide_eq_false c9
      clear c9
      obtain rfl := Option.some.inj H
      obtain ⟨hcz26_0, hcz26_1, hfz26_0, hfz26_1⟩ := sqc2 BK253
      go_wp2
      go_ret
      exact sqe HB
     have c9b0 := decide_eq_true c9
     clear c9
     have H' := Aside0.mk H
     clear H
     obtain ⟨hcz10_0, hcz10_1, hfz10_0, hfz10_1⟩ := sqc2 BK253
     go_wp2
     go_loopg [4] k2 (fun kq v4 w' => ∃ (x4_3 : Int), v4 = .int .i64 x4_3 ∧ Aside0 (spec_GapsOk.l1 kq x3_2 x4_3 a0_0 l0_1 = some r) ∧ Aside0 (kq ≤ k2) ∧ Aside0 (w'.heap[gb253]? = some (.cells #[.int .i64 a0_0, (.slice A0_1 l0_1.length c0_1)] 41 (0, 0))) ∧ Aside0 (Below w.heap.size w w'))
     case atStart => exact ⟨(0), (by first | rfl | (simp; done) | (simp [*]; done)), H', ⟨Nat.le_refl _⟩, sqk BK253, sqh HB⟩
     case round =>
      clear H'
      obtain ⟨x4_3, rfl, HA, HK3, BK253, HB⟩ := hrel
      cases gk with
      | zero => exact absurd HA.out (by simp [spec_GapsOk.l1])
      | succ k3 =>
       have H := HA.out
       clear HA
       simp only [spec_GapsOk.l1] at H
       replace H := sqi H
       rcases H with ⟨c11, H⟩ | ⟨c11, H⟩
       ·have c11b0 := decide_eq_false c11
        clear c11
        have H' := Aside0.mk H
        clear H
        obtain ⟨hcz25_0, hcz25_1, hfz25_0, hfz25_1⟩ := sqc2 BK253
        go_wp2
        go_roundg k3
        case measure => have := HJ1.out; have := HK2.out; have := HK3.out; omega
        case rel => exact ⟨(wrap64 (x3_2 + 1)), (by first | rfl | (simp; done) | (simp [*]; done)), H', ⟨by have := HJ1.out; have := HK2.out; have := HK3.out; omega⟩, sqk BK253, sqh HB⟩
       have c11b0 := decide_eq_true c11
       clear c11
       replace H := sqbi H
       obtain ⟨t255, A12, H⟩ := H
       replace H : ((spec_l1In.f t255 (-1099511627776) 1099511627776).bind fun t256 => (if t256 = true then (if x3_2 = x4_3 then (if t255 = 0 then (spec_GapsOk.l1 k3 x3_2 (wrap64 (x4_3 + 1)) a0_0 l0_1) else (some false)) else (spec_GapsOk.l1 k3 x3_2 (wrap64 (x4_3 + 1)) a0_0 l0_1)) else (some false))) = some r := H
       replace H := sqbi H
       obtain ⟨t256, A13, H⟩ := H
       replace H : (if t256 = true then (if x3_2 = x4_3 then (if t255 = 0 then (spec_GapsOk.l1 k3 x3_2 (wrap64 (x4_3 + 1)) a0_0 l0_1) else (some false)) else (spec_GapsOk.l1 k3 x3_2 (wrap64 (x4_3 + 1)) a0_0 l0_1)) else (some false)) = some r := H
       rcases sqI (t256 = true) with c14 | c14
       ·replace c14 := Bool.eq_false_iff.mpr c14
        subst c14
        have H1 : (some false) = some r := by rw [if_neg (show ¬ (false = true) by decide)] at H; exact H
        clear H
        have H := H1
        clear H1
        obtain rfl := Option.some.inj H
        obtain ⟨hcz23_0, hcz23_1, hfz23_0, hfz23_1⟩ := sqc2 BK253
        go_wp2_with (first | ((with_reducible refine gate_callee (f := 115) rfl ?_); refine sqL (some 38) Try.func115 #[.agg #[.int .i64 a0_0, .slice A0_1 l0_1.length c0_1], .int .i64 x3_2, .int .i64 x4_3] ?_; (with_reducible refine (spec_l11At.calls a0_0 _ _ l0_1 x3_2 x4_3 t255 _ ?side1 ?side2 A12.out).mono ?_); (case side1 => exact sqC (Kd.C_below HR0_1.out HB.out)); (case side2 => exact HC0_1.out); rintro e w24 ⟨rfl, hb⟩; refine ⟨_, rfl, ?_⟩; replace BK253 := sqb BK253 hb; replace HB := sqs HB hb; (try clear hb)) | ((with_reducible refine gate_callee (f := 105) rfl ?_); refine sqL (some 40) Try.func105 #[.int .i64 t255, .int .i64 (-1099511627776), .int .i64 1099511627776] ?_; (with_reducible refine (spec_l1In.calls t255 (-1099511627776) 1099511627776 false _ A13.out).mono ?_); rintro e w' ⟨rfl, ⟨nd, rfl⟩⟩; refine ⟨_, rfl, ?_⟩))
        go_ret
        exact sqe HB
       subst c14
       have H1 : (if x3_2 = x4_3 then (if t255 = 0 then (spec_GapsOk.l1 k3 x3_2 (wrap64 (x4_3 + 1)) a0_0 l0_1) else (some false)) else (spec_GapsOk.l1 k3 x3_2 (wrap64 (x4_3 + 1)) a0_0 l0_1)) = some r := by rw [if_pos rfl] at H; exact H
       clear H
       have H := H1
       clear H1
       replace H := sqi H
       rcases H with ⟨c15, H⟩ | ⟨c15, H⟩
       ·have c15b0 : (x3_2 == x4_3) = false := beq_eq_false_iff_ne.mpr c15
        have c15b1 : (x3_2 != x4_3) = true := bne_iff_ne.mpr c15
        have H' := Aside0.mk H
        clear H
        obtain ⟨hcz21_0, hcz21_1, hfz21_0, hfz21_1⟩ := sqc2 BK253
        go_wp2_with (first | ((with_reducible refine gate_callee (f := 115) rfl ?_); refine sqL (some 38) Try.func115 #[.agg #[.int .i64 a0_0, .slice A0_1 l0_1.length c0_1], .int .i64 x3_2, .int .i64 x4_3] ?_; (with_reducible refine (spec_l11At.calls a0_0 _ _ l0_1 x3_2 x4_3 t255 _ ?side1 ?side2 A12.out).mono ?_); (case side1 => exact sqC (Kd.C_below HR0_1.out HB.out)); (case side2 => exact HC0_1.out); rintro e w22 ⟨rfl, hb⟩; refine ⟨_, rfl, ?_⟩; replace BK253 := sqb BK253 hb; replace HB := sqs HB hb; (try clear hb)) | ((with_reducible refine gate_callee (f := 105) rfl ?_); refine sqL (some 40) Try.func105 #[.int .i64 t255, .int .i64 (-1099511627776), .int .i64 1099511627776] ?_; (with_reducible refine (spec_l1In.calls t255 (-1099511627776) 1099511627776 true _ A13.out).mono ?_); rintro e w' ⟨rfl, ⟨nd, rfl⟩⟩; refine ⟨_, rfl, ?_⟩))
        go_roundg k3
        case measure => have := HJ1.out; have := HK2.out; have := HK3.out; omega
        case rel => exact ⟨(wrap64 (x4_3 + 1)), (by first | rfl | (simp; done) | (simp [*]; done)), H', ⟨by have := HJ1.out; have := HK2.out; have := HK3.out; omega⟩, sqk BK253, sqh HB⟩
       have c15b0 : (x3_2 == x4_3) = true := beq_iff_eq.mpr c15
       have c15b1 : (x3_2 != x4_3) = false := bne_eq_false_iff_eq.mpr c15
       clear c15
       replace H := sqi H
       rcases H with ⟨c16, H⟩ | ⟨c16, H⟩
       ·have c16b0 : (t255 == 0) = false := beq_eq_false_iff_ne.mpr c16
        have c16b1 : (t255 != 0) = true := bne_iff_ne.mpr c16
        obtain rfl := Option.some.inj H
        obtain ⟨hcz19_0, hcz19_1, hfz19_0, hfz19_1⟩ := sqc2 BK253
        go_wp2_with (first | ((with_reducible refine gate_callee (f := 115) rfl ?_); refine sqL (some 38) Try.func115 #[.agg #[.int .i64 a0_0, .slice A0_1 l0_1.length c0_1], .int .i64 x3_2, .int .i64 x4_3] ?_; (with_reducible refine (spec_l11At.calls a0_0 _ _ l0_1 x3_2 x4_3 t255 _ ?side1 ?side2 A12.out).mono ?_); (case side1 => exact sqC (Kd.C_below HR0_1.out HB.out)); (case side2 => exact HC0_1.out); rintro e w20 ⟨rfl, hb⟩; refine ⟨_, rfl, ?_⟩; replace BK253 := sqb BK253 hb; replace HB := sqs HB hb; (try clear hb)) | ((with_reducible refine gate_callee (f := 105) rfl ?_); refine sqL (some 40) Try.func105 #[.int .i64 t255, .int .i64 (-1099511627776), .int .i64 1099511627776] ?_; (with_reducible refine (spec_l1In.calls t255 (-1099511627776) 1099511627776 true _ A13.out).mono ?_); rintro e w' ⟨rfl, ⟨nd, rfl⟩⟩; refine ⟨_, rfl, ?_⟩))
        go_ret
        exact sqe HB
       have c16b0 : (t255 == 0) = true := beq_iff_eq.mpr c16
       have c16b1 : (t255 != 0) = false := bne_eq_false_iff_eq.mpr c16
       clear c16
       have H' := Aside0.mk H
       clear H
       obtain ⟨hcz17_0, hcz17_1, hfz17_0, hfz17_1⟩ := sqc2 BK253
       go_wp2_with (first | ((with_reducible refine gate_callee (f := 115) rfl ?_); refine sqL (some 38) Try.func115 #[.agg #[.int .i64 a0_0, .slice A0_1 l0_1.length c0_1], .int .i64 x3_2, .int .i64 x4_3] ?_; (with_reducible refine (spec_l11At.calls a0_0 _ _ l0_1 x3_2 x4_3 t255 _ ?side1 ?side2 A12.out).mono ?_); (case side1 => exact sqC (Kd.C_below HR0_1.out HB.out)); (case side2 => exact HC0_1.out); rintro e w18 ⟨rfl, hb⟩; refine ⟨_, rfl, ?_⟩; replace BK253 := sqb BK253 hb; replace HB := sqs HB hb; (try clear hb)) | ((with_reducible refine gate_callee (f := 105) rfl ?_); refine sqL (some 40) Try.func105 #[.int .i64 t255, .int .i64 (-1099511627776), .int .i64 1099511627776] ?_; (with_reducible refine (spec_l1In.calls t255 (-1099511627776) 1099511627776 true _ A13.out).mono ?_); rintro e w' ⟨rfl, ⟨nd, rfl⟩⟩; refine ⟨_, rfl, ?_⟩))
       go_roundg k3
       case measure => have := HJ1.out; have := HK2.out; have := HK3.out; omega
       case rel => exact ⟨(wrap64 (x4_3 + 1)), (by first | rfl | (simp; done) | (simp [*]; done)), H', ⟨by have := HJ1.out; have := HK2.out; have := HK3.out; omega⟩, sqk BK253, sqh HB⟩

/-! ### spec_l11Copy: function 113 -/
def spec_l11Copy.T5 : Bool × List (List Nat × List Nat) := (true, [([], []), ([0], [0]), ([], []), ([2], [2]), ([], []), ([3, 4], [3, 4]), ([5], [5]), ([6], [6]), ([1, 7], [1, 7]), ([0, 1, 2, 3, 4, 5, 6, 7, 8], []), ([9, 8, 8, 0, 1, 2, 3, 4, 5, 6, 7, 8], [8, 9])])
def spec_l11Copy.B5 : List Nat := [0, 1, 0, 4, 0, 28, 60, 124, 255, 511, 1023]
theorem spec_l11Copy.tab5 : rtab .any (opsOf Try.f113 5) = spec_l11Copy.T5 := by kernel_rfl
theorem spec_l11Copy.bits5 : waitsOk spec_l11Copy.T5.2 spec_l11Copy.B5 = true := by kernel_rfl
set_option maxHeartbeats 8000000 in
set_option maxRecDepth 100000 in
theorem spec_l11Copy.calls (k : Nat) (a0_0 : Int) (A0_1 : Option Addr) (c0_1 : Nat) (l0_1 : List Int) (r1 : Int) (r2 : List Int) (w : World) (hr0_1 : Kd.C (Kd.int .i64) w A0_1 l0_1.length l0_1) (hc0_1 : l0_1.length ≤ c0_1) (h : spec_l11Copy.f k a0_0 l0_1 = some (r1, r2)) :
  Calls Try.prog 113 #[.agg #[.int .i64 a0_0, .slice A0_1 l0_1.length c0_1]] w fun e w' => ∃ v1_ : Value, e = .returned (.agg #[.int .i64 r1, v1_]) ∧ Kd.R (Kd.int .i64) 3 w' w.heap.size (fun _ => True) v1_ r2 ∧ Below w.heap.size w w' := by
 have hu41 := Try.underlying41
 have HR0_1 := Aside0.mk hr0_1
 have HC0_1 := Aside0.mk hc0_1
 clear hr0_1 hc0_1
 have HB := Aside0.mk (Below.refl w.heap.size w)
 have H : (spec_l11Copy.l0 k 0 a0_0 l0_1 a0_0 ([] : List Int)) = some (r1, r2) := h
 clear h
 have H' := Aside0.mk H
 clear H
 go_enter Try.func113, Try.ntmps113
 go_wp2_with (first | ((with_reducible refine gate_dst (N := 1) rfl ?_); refine sqx 1 #[.int .i64 a0_0, .slice A0_1 l0_1.length c0_1] 41 ?_; intro gb257 hg w2 hbox hb; have BK257 := Aside0.mk hbox; have GW257 := sqg HB hg; have GE257 := sqg HB hg; replace HB := sqs HB hb; clear hb hbox hg) | ((with_reducible refine gate_dst (N := 2) rfl ?_); refine sqx 2 #[.int .i64 0, .slice none 0 0] 41 ?_; intro gb258 hg w3 hbox hb; have BK258 := Aside0.mk hbox; have GW258 := sqg HB hg; have GE258 := sqg HB hg; have NB257_258 := sqn BK257 hg; have NB258_257 := sqm BK257 hg; replace BK257 := sqb BK257 hb; replace HB := sqs HB hb; clear hb hbox hg; have hnb4 := NB257_258.out; have hnc4 := NB258_257.out; obtain ⟨hcz5_0, hcz5_1, hfz5_0, hfz5_1⟩ := sqc2 BK257) | ((with_reducible refine gate_dst (N := 3) rfl ?_); refine sqx 3 #[.int .i64 0, .slice none 0 0] 41 ?_; intro gb259 hg w6 hbox hb; have BK259 := Aside0.mk hbox; have GW259 := sqg HB hg; have GE259 := sqg HB hg; have NB257_259 := sqn BK257 hg; have NB259_257 := sqm BK257 hg; have NB258_259 := sqn BK258 hg; have NB259_258 := sqm BK258 hg; refine sqM2 BK257 BK258 hb ?_; clear BK257 BK258; intro BK257 BK258; replace HB := sqs HB hb; clear hb hbox hg; have hnb7 := NB259_257.out; have hnc7 := NB257_259.out; have hnb8 := NB259_258.out; have hnc8 := NB258_259.out; obtain ⟨hcz9_0, hcz9_1, hfz9_0, hfz9_1⟩ := sqc2 BK259))
 go_loopg [4] k (fun kq v4 w' => ∃ (x4_1 : Int) (x260001_1 : List Int) (u260001 : Value), v4 = .int .i64 x4_1 ∧ Aside0 (spec_l11Copy.l0 kq x4_1 a0_0 l0_1 a0_0 x260001_1 = some (r1, r2)) ∧ Aside0 (kq ≤ k) ∧ Aside0 (Kd.R (Kd.int .i64) 3 w' w.heap.size (fun _ => True) u260001 x260001_1) ∧ Aside0 (w'.heap[gb257]? = some (.cells #[.int .i64 a0_0, (.slice A0_1 l0_1.length c0_1)] 41 (0, 0))) ∧ Aside0 (w'.heap[gb258]? = some (.cells #[.int .i64 0, (.slice none 0 0)] 41 (0, 0))) ∧ Aside0 (w'.heap[gb259]? = some (.cells #[.int .i64 a0_0, u260001] 41 (0, 0))) ∧ Aside0 (Below w.heap.size w w'))
 case atStart => exact ⟨(0), (([] : List Int)), (.slice none 0 0), (by first | rfl | (simp; done) | (simp [*]; done)), H', ⟨Nat.le_refl _⟩, ⟨by first | exact Kd.R_nil _ _ _ _ _ | exact Kd.N_nil _ _ _ _ _ | exact Kd.V_nil _ _ _ _ _ | exact Kd.Q_nil _ _ _ _ _ | exact Kd.S_nil _ _ _ _ _⟩, ⟨by refine sqt ?_; refine blk_far ?_ NB257_259.out _; refine sqt ?_; refine blk_far ?_ NB257_259.out _; refine sqt ?_; exact BK257.out⟩, ⟨by refine sqt ?_; refine blk_far ?_ NB258_259.out _; refine sqt ?_; refine blk_far ?_ NB258_259.out _; refine sqt ?_; exact BK258.out⟩, ⟨by refine sqt ?_; refine blk_put (cs := #[.int .i64 a0_0, .slice none 0 0]) ?_ 1 _ rfl; refine sqt ?_; refine blk_put (cs := #[.int .i64 0, .slice none 0 0]) ?_ 0 _ rfl; refine sqt ?_; exact BK259.out⟩, sqh HB⟩
 case round =>
  clear H'
  obtain ⟨x4_1, x260001_1, u260001, rfl, HA, HK1, HO_260001, BK257, BK258, BK259, HB⟩ := hrel
  cases gk with
  | zero => exact absurd HA.out (by simp [spec_l11Copy.l0])
  | succ k1 =>
   have H := HA.out
   clear HA
   simp only [spec_l11Copy.l0] at H
   replace H := sqi H
   rcases H with ⟨c10, H⟩ | ⟨c10, H⟩
   ·have c10b0 := decide_eq_false c10
    clear c10
    simp only [Option.some.injEq, Prod.mk.injEq] at H
    obtain ⟨rfl, rfl⟩ := H
    have hnb20 := NB257_258.out
    have hnc20 := NB258_257.out
    have hnb21 := NB257_259.out
    have hnc21 := NB259_257.out
    obtain ⟨hcz22_0, hcz22_1, hfz22_0, hfz22_1⟩ := sqc2 BK257
    have hnb23 := NB259_258.out
    have hnc23 := NB258_259.out
    obtain ⟨hcz24_0, hcz24_1, hfz24_0, hfz24_1⟩ := sqc2 BK259
    obtain ⟨hcz25_0, hcz25_1, hfz25_0, hfz25_1⟩ := sqc2 BK258
    obtain ⟨Ao26, co26, eo26⟩ := Kd.R_slice HO_260001.out
    subst eo26
    go_wp2
    refine bodyPost_ret (results_cell_row rfl _ _ gb258 41 #[.int .i64 a0_0, .slice Ao26 x260001_1.length co26] (0, 0) _ rfl (by refine sqt ?_; refine blk_put (cs := #[.int .i64 a0_0, .slice none 0 0]) ?_ 1 _ rfl; refine sqt ?_; refine blk_put (cs := #[.int .i64 0, .slice none 0 0]) ?_ 0 _ rfl; refine sqt ?_; exact BK258.out) Try.underlying41 rfl (by kernel_rfl)) rfl ?_
    exact ⟨_, by first | rfl | (simp [errW_none, errW_some] <;> rfl) | (simp [*, errW_none, errW_some] <;> rfl), by (with_reducible repeat (first | apply Kd.R_alloc | apply Kd.R_drewN | apply Kd.R_drew)); exact Kd.R_mono (Kd.R_far (p := ⟨gb258, 1, none⟩) (Kd.R_far (p := ⟨gb258, 0, none⟩) (Kd.R_types HO_260001.out BK258.out (by decide)) (fun _ hk => hk.2) (.int .i64 a0_0)) (fun _ hk => hk.2) (.slice Ao26 x260001_1.length co26)) (fun _ hk => trivial), by repeat (first | (with_reducible first | exact HB.out | apply below_alloc | apply pw_below_drewN | apply below_drew1 | refine below_set ?_ GE257.out | refine below_set ?_ GE258.out | refine below_set ?_ GE259.out) | exact HB.out)⟩
   have c10b0 := decide_eq_true c10
   clear c10
   replace H := sqi H
   rcases H with ⟨c11, H⟩ | ⟨c11, H⟩
   ·exact absurd H (by simp)
   have c11b0 := decide_eq_true c11
   clear c11
   replace H := sqi H
   rcases H with ⟨c12, H⟩ | ⟨c12, H⟩
   ·exact absurd H (by simp)
   have LMc12 := Aside0.mk c12
   clear c12
   obtain ⟨y261, hy261⟩ : ∃ y_ : List Int, y_ = (x260001_1 ++ [rd l0_1 x4_1]) := ⟨_, rfl⟩
   replace H : (spec_l11Copy.l0 k1 (wrap64 (x4_1 + 1)) a0_0 l0_1 a0_0 y261) = some (r1, r2) := by first | (rw [hy261]; with_reducible exact H) | (have H2_ := (Option.bind_some _ _).symm.trans H; rw [hy261]; with_reducible exact H2_) | (have H2_ := (Option.bind_some _ _).symm.trans H; with_reducible exact H2_) | with_reducible exact H | (rw [hy261]; exact H) | exact H
   have Ny261 := Aside0.mk hy261
   clear hy261
   have H' := Aside0.mk H
   clear H
   have hnb13 := NB257_258.out
   have hnc13 := NB258_257.out
   have hnb14 := NB257_259.out
   have hnc14 := NB259_257.out
   obtain ⟨hcz15_0, hcz15_1, hfz15_0, hfz15_1⟩ := sqc2 BK257
   try go_wp2
   replace HO_260001 := Aside0.mk (Kd.R_drew HO_260001.out)
   replace BK257 := Aside0.mk (blk_drew BK257.out)
   replace BK258 := Aside0.mk (blk_drew BK258.out)
   replace BK259 := Aside0.mk (blk_drew BK259.out)
   replace HB := Aside0.mk (below_drew1 HB.out)
   have p260 : 0 ≤ (x4_1 : Int) := sqd
   have q260 : x4_1 < (l0_1.length : Int) := sqd
   obtain ⟨ad260, e260, hx260_0⟩ := Kd.at_int HR0_1.out x4_1 p260 q260
   have hw260_0 := hx260_0
   cases e260
   replace hx260_0 := sqa HB hx260_0
   replace p260 := eq_true p260
   replace q260 := eq_true q260
   refine start_ (n := 11) (S := fun w' => w'.cell? ⟨gb259, 0, none⟩ = some (.int .i64 a0_0) ∧ w'.cell? ⟨gb259, 1, none⟩ = some (u260001) ∧ w'.cell? ⟨gb257, 0, none⟩ = some (.int .i64 a0_0) ∧ w'.cell? ⟨gb257, 1, none⟩ = some (.slice (some ad260) l0_1.length c0_1) ∧ w'.cell? (ad260.add (x4_1).toNat) = some (.int .i64 (rd l0_1 x4_1))) (ds := [10]) #[false, false, false, false, false, false, false, false, false, false, false] (by kernel_rfl) rfl rfl ⟨(blk_cell BK259.out 0).trans rfl, (blk_cell BK259.out 1).trans rfl, (blk_cell BK257.out 0).trans rfl, (blk_cell BK257.out 1).trans rfl, (sqa HB hw260_0 :)⟩ (fun hHeld => ?_); refine with_tabW spec_l11Copy.tab5 spec_l11Copy.bits5 (fun HT_ HW_ => ?_)
   generalize wr.drew = w16 at HO_260001 BK257 BK258 BK259 HB hx260_0 hHeld ⊢
   refine sqp HT_ 0 15 ?_
   refine sqp HT_ 2 17 ?_
   refine sqp HT_ 4 19 ?_
   refine sqw HT_ HW_ 1 16 hHeld ?_
   refine sqw HT_ HW_ 3 18 hHeld ?_
   refine sqp HT_ 5 20 ?_
   refine sqw HT_ HW_ 6 21 hHeld ?_
   refine sqo HT_ 7 22 (fun K hK => ?_)
   refine value_ (w1 := ?_) (v := ?_) (by rfl) rfl ?_ ?_
   rotate_left 2
   ·go_simp
    constructor
    ·rfl
    ·rfl
   refine hK.out _ _ ⟨(blk_cell (blk_alloc BK259.out _) 0).trans rfl, (blk_cell (blk_alloc BK259.out _) 1).trans rfl, (blk_cell (blk_alloc BK257.out _) 0).trans rfl, (blk_cell (blk_alloc BK257.out _) 1).trans rfl, (World.cell?_alloc_lt _ _ _ (World.block_lt_of_cell? _ _ ((sqa HB hw260_0 :)))).trans ((sqa HB hw260_0 :))⟩ (fun hHeld => ?_)
   clear hK K
   refine sqnm ?_
   refine sqo HT_ 8 23 (fun K hK => ?_)
   refine Kd.R_append_step (Kd.int .i64) (w0 := w) w.heap.size (by rfl) (.tmp 16) (.tmp 22) 39 3 (.int .i64 0) 8 rfl Try.underlying39 info3 rfl (by decide) (by omega) u260001 x260001_1 (rd l0_1 x4_1) [.int .i64 (rd l0_1 x4_1)] (fun _ => True) (fun _ => False) rfl rfl ?aP (fun _ hk => hk.elim) ?aF ?aO ?aB ?aS ?aL ?_
   (case aP => exact rfl)
   (case aB => exact (sqB HB))
   (case aF => exact (fun _ _ => trivial))
   (case aO => exact (sqy HO_260001.out))
   (case aS => exact (below_size (sqB HB)))
   (case aL => have := LMc12.out; omega)
   intro v262 w17 ho hb hg hat
   rw [← Ny261.out] at ho
   have n0_ := Aside0.mk (blk_grown (g := gb257) (o := .cells #[.int .i64 a0_0, .slice (some ad260) l0_1.length c0_1] 41 (0, 0)) (sqt BK257.out) hg (Kd.R_ne HO_260001.out BK257.out (by decide)))
   have n1_ := Aside0.mk (blk_grown (g := gb258) (o := .cells #[.int .i64 0, .slice none 0 0] 41 (0, 0)) (sqt BK258.out) hg (Kd.R_ne HO_260001.out BK258.out (by decide)))
   have n2_ := Aside0.mk (blk_grown (g := gb259) (o := .cells #[.int .i64 a0_0, u260001] 41 (0, 0)) (sqt BK259.out) hg (Kd.R_ne HO_260001.out BK259.out (by decide)))
   have n3_ := Aside0.mk (hb)
   have n4_ := Aside0.mk (ho)
   clear BK257
   clear BK258
   clear BK259
   clear HB
   clear HO_260001
   have BK257 := n0_
   have BK258 := n1_
   have BK259 := n2_
   have HB := n3_
   have HO263 := n4_
   clear n0_ n1_ n2_ n3_ n4_
   clear ho hb hg hat
   obtain ⟨Ao18, co18, eo18⟩ := Kd.R_slice HO263.out
   (first | subst eo18 | (injection eo18 with f1_ f2_ f3_; have f4_ := f1_.symm; have f5_ := f3_.symm; clear f1_ f2_ f3_; subst f4_; subst f5_))
   refine hK.out _ _ ⟨(blk_cell BK259.out 0).trans rfl, (blk_cell BK259.out 1).trans rfl, (blk_cell BK257.out 0).trans rfl, (blk_cell BK257.out 1).trans rfl, (sqa HB hw260_0 :)⟩ (fun hHeld => ?_)
   clear hK K
   refine sqnm ?_
   refine sqp HT_ 9 24 ?_
   refine last_ (i := 10) (N := none) #[true, true, true, true, true, true, true, true, true, true, true] rfl rfl (one_of HT_.out (by kernel_rfl)) (by decide) (fun K hK => ?_)
   have hs19 : w17.cell? ⟨gb259, 1, none⟩ = some (u260001) := (blk_cell BK259.out 1).trans rfl
   have hfs19 := blk_frozen BK259.out 1
   have hns19_0 := NB257_259.out
   have hns19_1 := NB258_259.out
   have hms19_0 := NB259_257.out
   have hms19_1 := NB259_258.out
   refine skip_ (w1 := ?_) (by rfl) rfl ?_ ?_
   rotate_left
   ·go_simp
    rfl
   refine hK.out _ _ ?_
   clear hK K
   refine done_ (done_of HT_.out (by kernel_rfl)) ?_
   try go_wp2
   go_roundg k1
   case measure => have := HK1.out; omega
   case rel => exact ⟨(wrap64 (x4_1 + 1)), (y261), (.slice Ao18 y261.length co18), (by first | rfl | (simp; done) | (simp [*]; done)), H', ⟨by have := HK1.out; omega⟩, ⟨by (with_reducible repeat (first | apply Kd.R_alloc | apply Kd.R_drewN | apply Kd.R_drew)); exact Kd.R_mono (Kd.R_far (p := ⟨gb259, 1, none⟩) (Kd.R_types HO263.out BK259.out (by decide)) (fun _ hk => hk.2) (.slice Ao18 y261.length co18)) (fun _ hk => trivial)⟩, ⟨by refine sqt ?_; refine blk_far ?_ NB257_259.out _; refine sqt ?_; exact BK257.out⟩, ⟨by refine sqt ?_; refine blk_far ?_ NB258_259.out _; refine sqt ?_; exact BK258.out⟩, ⟨by refine sqt ?_; refine blk_put (cs := #[.int .i64 a0_0, u260001]) ?_ 1 _ rfl; refine sqt ?_; exact BK259.out⟩, sqh HB⟩

/-! ### spec_l11Add: function 114 -/
set_option maxHeartbeats 8000000 in
set_option maxRecDepth 100000 in
theorem spec_l11Add.calls (a0 : Int) (a1 : Int) (r : Int) (w : World) (h : spec_l11Add.f a0 a1 = some r) :
  Calls Try.prog 114 #[.int .i64 a0, .int .i64 a1] w fun e w' => e = .returned (.int .i64 r) ∧ Drawn0 w w' := by
 have H : (if a0 ≥ 1099511627776 then (some 1099511627776) else (if a1 ≥ 1099511627776 then (some 1099511627776) else (if (wrap64 (a0 + a1)) ≥ 1099511627776 then (some 1099511627776) else (some (wrap64 (a0 + a1)))))) = some r := h
 clear h
 replace H := sqj H
 rcases H with ⟨c3, H⟩ | ⟨c3, H⟩
 ·have c3b0 : decide (1099511627776 ≤ a0) = true := decide_eq_true c3
  clear c3
  obtain rfl := Option.some.inj H
  go_enter Try.func114, Try.ntmps114
  go_wp2
  go_ret
  exact ⟨by first | rfl | (simp; done) | (simp [*]; done), by repeat (first | exact Drawn0.refl _ | apply Drawn0.step)⟩
 have c3b0 : decide (1099511627776 ≤ a0) = false := decide_eq_false c3
 clear c3
 replace H := sqj H
 rcases H with ⟨c4, H⟩ | ⟨c4, H⟩
 ·have c4b0 : decide (1099511627776 ≤ a1) = true := decide_eq_true c4
  clear c4
  obtain rfl := Option.some.inj H
  go_enter Try.func114, Try.ntmps114
  go_wp2
  go_ret
  exact ⟨by first | rfl | (simp; done) | (simp [*]; done), by repeat (first | exact Drawn0.refl _ | apply Drawn0.step)⟩
 have c4b0 : decide (1099511627776 ≤ a1) = false := decide_eq_false c4
 clear c4
 replace H := sqj H
 rcases H with ⟨c5, H⟩ | ⟨c5, H⟩
 ·have c5b0 : decide (1099511627776 ≤ (wrap64 (a0 + a1))) = true := decide_eq_true c5
  clear c5
  obtain rfl := Option.some.inj H
  go_enter Try.func114, Try.ntmps114
  go_wp2
  go_ret
  exact ⟨by first | rfl | (simp; done) | (simp [*]; done), by repeat (first | exact Drawn0.refl _ | apply Drawn0.step)⟩
 have c5b0 : decide (1099511627776 ≤ (wrap64 (a0 + a1))) = false := decide_eq_false c5
 clear c5
 obtain rfl := Option.some.inj H
 go_enter Try.func114, Try.ntmps114
 go_wp2
 go_ret
 exact ⟨by first | rfl | (simp; done) | (simp [*]; done), by repeat (first | exact Drawn0.refl _ | apply Drawn0.step)⟩

end Go.Proofs.Ytkekcenlleebeaa.PFnGapsClose
