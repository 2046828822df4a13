/- Functions of the program as plain Lean functions, and that calls of them come to what these tell. Conditions: those in each law. -/
import Derived.Test.YtnmgckdgmplddaaSq
import Derived.Test.YtnmgckdgmplddaaDFnExactAbsHas
import Derived.Test.YtnmgckdgmplddaaQFnExactAbsHasx0
import Derived.Test.YtnmgckdgmplddaaQFnExactAbsHasx3
import Derived.Test.YtnmgckdgmplddaaQFnExactAbsHasx4
import Derived.Test.YtnmgckdgmplddaaQFnExactAbsHasx5
import Derived.Test.YtnmgckdgmplddaaQFnExactAbsHasx8
import Derived.Test.YtnmgckdgmplddaaQFnExactAbsHasx9
namespace Go.Proofs.Ytnmgckdgmplddaa.PFnExactAbsHas
open Go.RowKit Go.Proofs.Ytnmgckdgmplddaa.Sq Go.Proofs.YtnmgckdgmplddaaW.PrintWords Go.Proofs.YtnmgckdgmplddaaW.PrintLast Go.Proofs.YtnmgckdgmplddaaW.PrintMore
attribute [local go_sem] max2_int min2_int max_two min_two max_three min_three max_four min_four   -- for this text's walks alone
set_option linter.unusedVariables false
set_option linter.unusedSimpArgs false

/-! ### spec_GapsOk: function 43 -/
set_option maxHeartbeats 8000000 in
set_option maxRecDepth 100000 in
theorem spec_GapsOk.calls (k : Nat) (a0_0 : Int) (A0_1 : Option Addr) (c0_1 : Nat) (l0_1 : List Int) (r : Bool) (w : World) (hr0_1 : Kd.C (Kd.int .i64) w A0_1 l0_1.length l0_1) (hc0_1 : l0_1.length ≤ c0_1) (h : spec_GapsOk.f k a0_0 l0_1 = some r) :
  Calls Try.prog 43 #[.agg #[.int .i64 a0_0, .slice A0_1 l0_1.length c0_1]] w fun e w' => e = .returned (.bool r) ∧ Below w.heap.size w w' := by
 have hu37 := Try.underlying37
 have HR0_1 := Aside0.mk hr0_1
 have HC0_1 := Aside0.mk hc0_1
 clear hr0_1 hc0_1
 have HB := Aside0.mk (Below.refl w.heap.size w)
 have H := h
 unfold spec_GapsOk.f at H
 clear h
 have HC2 := Aside0.mk H
 clear H
 go_enter Try.func43, Try.ntmps43
 go_upto_region 1 with (first | ((with_reducible refine gate_dst (N := 1) rfl ?_); (try (refine gate_guard (by rfl) ?_; dsimp only)); refine sqx 1 #[.int .i64 a0_0, .slice A0_1 l0_1.length c0_1] 37 ?_; intro gb203 hg w3 hbox hb; have BK203 := Aside0.mk hbox; have GW203 := sqg HB hg; have GE203 := sqg HB hg; replace HB := sqs HB hb; clear hb hbox hg))
 (try simp only [Act.put, List.setIfInBounds_toArray, List.set_cons_zero, List.set_cons_succ])
 go_cut [22] (fun v22 wc => ∃ (kq : Nat) (x22_1 : Bool), v22 = .bool x22_1 ∧ Aside0 (spec_GapsOk.j0 kq x22_1 a0_0 l0_1 = some r) ∧ Aside0 (kq ≤ k) ∧ Aside0 (wc.heap[gb203]? = some (.cells #[.int .i64 a0_0, (.slice A0_1 l0_1.length c0_1)] 37 (0, 0))) ∧ Aside0 (Below w.heap.size w wc))
 case first =>
  have H := HC2.out
  clear HC2
  replace H := Option.bind_eq_some_iff.mp H
  obtain ⟨t204, A40, H⟩ := H
  try dsimp only at H
  have A4 := Aside0.mk A40
  clear A40
  rcases sqI (t204 = true) with c5 | c5
  ·replace c5 := Bool.eq_false_iff.mpr c5
   subst c5
   have H1 : (spec_GapsOk.j0 k true a0_0 l0_1) = some r := by rw [if_neg (show ¬ (false = true) by decide)] at H; exact H
   clear H
   have H := H1
   clear H1
   have H' := Aside0.mk H
   clear H
   obtain ⟨hcz7_0, hcz7_1, hfz7_0, hfz7_1⟩ := sqc2 BK203
   go_wp2_with (first | ((with_reducible refine gate_callee (f := 68) rfl ?_); refine sqL (some 8) Try.func68 #[.int .i64 a0_0, .int .i64 0, .int .i64 12] ?_; (with_reducible refine (spec_l1In.calls a0_0 0 12 false _ A4.out).mono ?_); rintro e w' ⟨rfl, ⟨nd, rfl⟩⟩; refine ⟨_, rfl, ?_⟩))
   go_meet
   case rel => exact ⟨_, (true), (by first | rfl | (simp; done) | (simp [*]; done)), H', ⟨by first | omega | exact Nat.le_refl _⟩, sqk BK203, sqh HB⟩
  subst c5
  have H1 : (spec_GapsOk.j0 k ((l0_1.length : Int) != (wrap64 ((wrap64 (a0_0 + 1)) * (wrap64 (a0_0 + 1))))) a0_0 l0_1) = some r := by rw [if_pos rfl] at H; exact H
  clear H
  have H := H1
  clear H1
  have H' := Aside0.mk H
  clear H
  obtain ⟨hcz6_0, hcz6_1, hfz6_0, hfz6_1⟩ := sqc2 BK203
  go_wp2_with (first | ((with_reducible refine gate_callee (f := 68) rfl ?_); refine sqL (some 8) Try.func68 #[.int .i64 a0_0, .int .i64 0, .int .i64 12] ?_; (with_reducible refine (spec_l1In.calls a0_0 0 12 true _ A4.out).mono ?_); rintro e w' ⟨rfl, ⟨nd, rfl⟩⟩; refine ⟨_, rfl, ?_⟩))
  go_meet
  case rel => exact ⟨_, (((l0_1.length : Int) != (wrap64 ((wrap64 (a0_0 + 1)) * (wrap64 (a0_0 + 1)))))), (by first | rfl | (simp; done) | (simp [*]; done)), H', ⟨by first | omega | exact Nat.le_refl _⟩, sqk BK203, sqh HB⟩
 case rest =>
  clear HC2
  obtain ⟨kq, x22_1, rfl, HA, HJ1, BK203, HB⟩ := hcut
  cases kq with
  | zero => exact absurd HA.out (by simp [spec_GapsOk.j0])
  | succ kj1 =>
   have H := HA.out
   clear HA
   simp only [spec_GapsOk.j0] at H
   by_cases c8 : x22_1 = true
   ·subst c8
    have H1 : (some false) = some r := by rw [if_pos rfl] at H; exact H
    clear H
    have H := H1
    clear H1
    obtain rfl := Option.some.inj H
    go_wp2
    go_ret
    exact sqe HB
   replace c8 := Bool.eq_false_iff.mpr c8
   subst c8
   have H1 : (spec_GapsOk.l0 kj1 0 a0_0 l0_1) = some r := by rw [if_neg (show ¬ (false = true) by decide)] at H; exact H
   clear H
   have H := H1
   clear H1
   have H' := Aside0.mk H
   clear H
   go_wp2
   go_loopg [3] kj1 (fun kq v3 w' => ∃ (x3_2 : Int), v3 = .int .i64 x3_2 ∧ Aside0 (spec_GapsOk.l0 kq x3_2 a0_0 l0_1 = some r) ∧ Aside0 (kq ≤ kj1) ∧ Aside0 (w'.heap[gb203]? = some (.cells #[.int .i64 a0_0, (.slice A0_1 l0_1.length c0_1)] 37 (0, 0))) ∧ Aside0 (Below w.heap.size w w'))
   case atStart => exact ⟨(0), (by first | rfl | (simp; done) | (simp [*]; done)), H', ⟨Nat.le_refl _⟩, sqk BK203, sqh HB⟩
   case round =>
    clear H'
    obtain ⟨x3_2, rfl, HA, HK2, BK203, HB⟩ := hrel
    cases gk with
    | zero => exact absurd HA.out (by simp [spec_GapsOk.l0])
    | succ k2 =>
     have H := HA.out
     clear HA
     simp only [spec_GapsOk.l0] at H
     replace H := sqi H
     rcases H with ⟨c9, H⟩ | ⟨c9, H⟩
     ·have c9b0 := decide_eq_false c9
      clear c9
      obtain rfl := Option.some.inj H
      obtain ⟨hcz26_0, hcz26_1, hfz26_0, hfz26_1⟩ := sqc2 BK203
      go_wp2
      go_ret
      exact sqe HB
     have c9b0 := decide_eq_true c9
     clear c9
     have H' := Aside0.mk H
     clear H
     obtain ⟨hcz10_0, hcz10_1, hfz10_0, hfz10_1⟩ := sqc2 BK203
     go_wp2
     go_loopg [4] k2 (fun kq v4 w' => ∃ (x4_3 : Int), v4 = .int .i64 x4_3 ∧ Aside0 (spec_GapsOk.l1 kq x3_2 x4_3 a0_0 l0_1 = some r) ∧ Aside0 (kq ≤ k2) ∧ Aside0 (w'.heap[gb203]? = some (.cells #[.int .i64 a0_0, (.slice A0_1 l0_1.length c0_1)] 37 (0, 0))) ∧ Aside0 (Below w.heap.size w w'))
     case atStart => exact ⟨(0), (by first | rfl | (simp; done) | (simp [*]; done)), H', ⟨Nat.le_refl _⟩, sqk BK203, sqh HB⟩
     case round =>
      clear H'
      obtain ⟨x4_3, rfl, HA, HK3, BK203, HB⟩ := hrel
      cases gk with
      | zero => exact absurd HA.out (by simp [spec_GapsOk.l1])
      | succ k3 =>
       have H := HA.out
       clear HA
       simp only [spec_GapsOk.l1] at H
       replace H := sqi H
       rcases H with ⟨c11, H⟩ | ⟨c11, H⟩
       ·have c11b0 := decide_eq_false c11
        clear c11
        have H' := Aside0.mk H
        clear H
        obtain ⟨hcz25_0, hcz25_1, hfz25_0, hfz25_1⟩ := sqc2 BK203
        go_wp2
        go_roundg k3
        case measure => have := HJ1.out; have := HK2.out; have := HK3.out; omega
        case rel => exact ⟨(wrap64 (x3_2 + 1)), (by first | rfl | (simp; done) | (simp [*]; done)), H', ⟨by have := HJ1.out; have := HK2.out; have := HK3.out; omega⟩, sqk BK203, sqh HB⟩
       have c11b0 := decide_eq_true c11
       clear c11
       replace H := Option.bind_eq_some_iff.mp H
       obtain ⟨t205, A120, H⟩ := H
       try dsimp only at H
       have A12 := Aside0.mk A120
       clear A120
       replace H := Option.bind_eq_some_iff.mp H
       obtain ⟨t206, A130, H⟩ := H
       try dsimp only at H
       have A13 := Aside0.mk A130
       clear A130
       rcases sqI (t206 = true) with c14 | c14
       ·replace c14 := Bool.eq_false_iff.mpr c14
        subst c14
        have H1 : (some false) = some r := by rw [if_neg (show ¬ (false = true) by decide)] at H; exact H
        clear H
        have H := H1
        clear H1
        obtain rfl := Option.some.inj H
        obtain ⟨hcz23_0, hcz23_1, hfz23_0, hfz23_1⟩ := sqc2 BK203
        go_wp2_with (first | ((with_reducible refine gate_callee (f := 53) rfl ?_); refine sqL (some 38) Try.func53 #[.agg #[.int .i64 a0_0, .slice A0_1 l0_1.length c0_1], .int .i64 x3_2, .int .i64 x4_3] ?_; (with_reducible refine (spec_l11At.calls a0_0 _ _ l0_1 x3_2 x4_3 t205 _ ?side1 ?side2 A12.out).mono ?_); (case side1 => exact sqC (Kd.C_below HR0_1.out HB.out)); (case side2 => exact HC0_1.out); rintro e w24 ⟨rfl, hb⟩; refine ⟨_, rfl, ?_⟩; replace BK203 := sqb BK203 hb; replace HB := sqs HB hb; (try clear hb)) | ((with_reducible refine gate_callee (f := 68) rfl ?_); refine sqL (some 40) Try.func68 #[.int .i64 t205, .int .i64 (-1099511627776), .int .i64 1099511627776] ?_; (with_reducible refine (spec_l1In.calls t205 (-1099511627776) 1099511627776 false _ A13.out).mono ?_); rintro e w' ⟨rfl, ⟨nd, rfl⟩⟩; refine ⟨_, rfl, ?_⟩))
        go_ret
        exact sqe HB
       subst c14
       have H1 : (if x3_2 = x4_3 then (if t205 = 0 then (spec_GapsOk.l1 k3 x3_2 (wrap64 (x4_3 + 1)) a0_0 l0_1) else (some false)) else (spec_GapsOk.l1 k3 x3_2 (wrap64 (x4_3 + 1)) a0_0 l0_1)) = some r := by rw [if_pos rfl] at H; exact H
       clear H
       have H := H1
       clear H1
       replace H := sqi H
       rcases H with ⟨c15, H⟩ | ⟨c15, H⟩
       ·have c15b0 : (x3_2 == x4_3) = false := beq_eq_false_iff_ne.mpr c15
        have c15b1 : (x3_2 != x4_3) = true := bne_iff_ne.mpr c15
        have H' := Aside0.mk H
        clear H
        obtain ⟨hcz21_0, hcz21_1, hfz21_0, hfz21_1⟩ := sqc2 BK203
        go_wp2_with (first | ((with_reducible refine gate_callee (f := 53) rfl ?_); refine sqL (some 38) Try.func53 #[.agg #[.int .i64 a0_0, .slice A0_1 l0_1.length c0_1], .int .i64 x3_2, .int .i64 x4_3] ?_; (with_reducible refine (spec_l11At.calls a0_0 _ _ l0_1 x3_2 x4_3 t205 _ ?side1 ?side2 A12.out).mono ?_); (case side1 => exact sqC (Kd.C_below HR0_1.out HB.out)); (case side2 => exact HC0_1.out); rintro e w22 ⟨rfl, hb⟩; refine ⟨_, rfl, ?_⟩; replace BK203 := sqb BK203 hb; replace HB := sqs HB hb; (try clear hb)) | ((with_reducible refine gate_callee (f := 68) rfl ?_); refine sqL (some 40) Try.func68 #[.int .i64 t205, .int .i64 (-1099511627776), .int .i64 1099511627776] ?_; (with_reducible refine (spec_l1In.calls t205 (-1099511627776) 1099511627776 true _ A13.out).mono ?_); rintro e w' ⟨rfl, ⟨nd, rfl⟩⟩; refine ⟨_, rfl, ?_⟩))
        go_roundg k3
        case measure => have := HJ1.out; have := HK2.out; have := HK3.out; omega
        case rel => exact ⟨(wrap64 (x4_3 + 1)), (by first | rfl | (simp; done) | (simp [*]; done)), H', ⟨by have := HJ1.out; have := HK2.out; have := HK3.out; omega⟩, sqk BK203, sqh HB⟩
       have c15b0 : (x3_2 == x4_3) = true := beq_iff_eq.mpr c15
       have c15b1 : (x3_2 != x4_3) = false := bne_eq_false_iff_eq.mpr c15
       clear c15
       replace H := sqi H
       rcases H with ⟨c16, H⟩ | ⟨c16, H⟩
       ·have c16b0 : (t205 == 0) = false := beq_eq_false_iff_ne.mpr c16
        have c16b1 : (t205 != 0) = true := bne_iff_ne.mpr c16
        obtain rfl := Option.some.inj H
        obtain ⟨hcz19_0, hcz19_1, hfz19_0, hfz19_1⟩ := sqc2 BK203
        go_wp2_with (first | ((with_reducible refine gate_callee (f := 53) rfl ?_); refine sqL (some 38) Try.func53 #[.agg #[.int .i64 a0_0, .slice A0_1 l0_1.length c0_1], .int .i64 x3_2, .int .i64 x4_3] ?_; (with_reducible refine (spec_l11At.calls a0_0 _ _ l0_1 x3_2 x4_3 t205 _ ?side1 ?side2 A12.out).mono ?_); (case side1 => exact sqC (Kd.C_below HR0_1.out HB.out)); (case side2 => exact HC0_1.out); rintro e w20 ⟨rfl, hb⟩; refine ⟨_, rfl, ?_⟩; replace BK203 := sqb BK203 hb; replace HB := sqs HB hb; (try clear hb)) | ((with_reducible refine gate_callee (f := 68) rfl ?_); refine sqL (some 40) Try.func68 #[.int .i64 t205, .int .i64 (-1099511627776), .int .i64 1099511627776] ?_; (with_reducible refine (spec_l1In.calls t205 (-1099511627776) 1099511627776 true _ A13.out).mono ?_); rintro e w' ⟨rfl, ⟨nd, rfl⟩⟩; refine ⟨_, rfl, ?_⟩))
        go_ret
        exact sqe HB
       have c16b0 : (t205 == 0) = true := beq_iff_eq.mpr c16
       have c16b1 : (t205 != 0) = false := bne_eq_false_iff_eq.mpr c16
       clear c16
       have H' := Aside0.mk H
       clear H
       obtain ⟨hcz17_0, hcz17_1, hfz17_0, hfz17_1⟩ := sqc2 BK203
       go_wp2_with (first | ((with_reducible refine gate_callee (f := 53) rfl ?_); refine sqL (some 38) Try.func53 #[.agg #[.int .i64 a0_0, .slice A0_1 l0_1.length c0_1], .int .i64 x3_2, .int .i64 x4_3] ?_; (with_reducible refine (spec_l11At.calls a0_0 _ _ l0_1 x3_2 x4_3 t205 _ ?side1 ?side2 A12.out).mono ?_); (case side1 => exact sqC (Kd.C_below HR0_1.out HB.out)); (case side2 => exact HC0_1.out); rintro e w18 ⟨rfl, hb⟩; refine ⟨_, rfl, ?_⟩; replace BK203 := sqb BK203 hb; replace HB := sqs HB hb; (try clear hb)) | ((with_reducible refine gate_callee (f := 68) rfl ?_); refine sqL (some 40) Try.func68 #[.int .i64 t205, .int .i64 (-1099511627776), .int .i64 1099511627776] ?_; (with_reducible refine (spec_l1In.calls t205 (-1099511627776) 1099511627776 true _ A13.out).mono ?_); rintro e w' ⟨rfl, ⟨nd, rfl⟩⟩; refine ⟨_, rfl, ?_⟩))
       go_roundg k3
       case measure => have := HJ1.out; have := HK2.out; have := HK3.out; omega
       case rel => exact ⟨(wrap64 (x4_3 + 1)), (by first | rfl | (simp; done) | (simp [*]; done)), H', ⟨by have := HJ1.out; have := HK2.out; have := HK3.out; omega⟩, sqk BK203, sqh HB⟩

/-! ### spec_AbsOk: function 21 -/
set_option maxHeartbeats 8000000 in
set_option maxRecDepth 100000 in
theorem spec_AbsOk.calls (k : Nat) (a0_0 : Bool) (A0_1 : Option Addr) (c0_1 : Nat) (l0_1 : List (S60)) (A0_2 : Option Addr) (c0_2 : Nat) (l0_2 : List (S63)) (A0_3 : Option Addr) (c0_3 : Nat) (l0_3 : List (S60)) (a0_4 : Int) (A0_5 : Option Addr) (c0_5 : Nat) (l0_5 : List Int) (r : Bool) (w : World) (hr0_1 : Kd.C k60 w A0_1 l0_1.length l0_1) (hc0_1 : l0_1.length ≤ c0_1) (hr0_2 : Kd.C k63 w A0_2 l0_2.length l0_2) (hc0_2 : l0_2.length ≤ c0_2) (hr0_3 : Kd.C k60 w A0_3 l0_3.length l0_3) (hc0_3 : l0_3.length ≤ c0_3) (hr0_5 : Kd.C (Kd.int .i64) w A0_5 l0_5.length l0_5) (hc0_5 : l0_5.length ≤ c0_5) (h : spec_AbsOk.f k a0_0 l0_1 l0_2 l0_3 a0_4 l0_5 = some r) :
  Calls Try.prog 21 #[.agg #[.bool a0_0, .slice A0_1 l0_1.length c0_1, .slice A0_2 l0_2.length c0_2, .slice A0_3 l0_3.length c0_3, .int .i64 a0_4, .slice A0_5 l0_5.length c0_5]] w fun e w' => e = .returned (.bool r) ∧ Below w.heap.size w w' := by
 have hu39 := Try.underlying39
 have hu63 := Try.underlying63
 have hu37 := Try.underlying37
 have HR0_1 := Aside0.mk hr0_1
 have HC0_1 := Aside0.mk hc0_1
 clear hr0_1 hc0_1
 have HR0_2 := Aside0.mk hr0_2
 have HC0_2 := Aside0.mk hc0_2
 clear hr0_2 hc0_2
 have HR0_3 := Aside0.mk hr0_3
 have HC0_3 := Aside0.mk hc0_3
 clear hr0_3 hc0_3
 have HR0_5 := Aside0.mk hr0_5
 have HC0_5 := Aside0.mk hc0_5
 clear hr0_5 hc0_5
 have HB := Aside0.mk (Below.refl w.heap.size w)
 have H := h
 unfold spec_AbsOk.f at H
 clear h
 rcases sqI (a0_0 = true) with c2 | c2
 ·replace c2 := Bool.eq_false_iff.mpr c2
  subst c2
  have H1 : (if (l0_1.length : Int) = 0 then (if (l0_2.length : Int) = 0 then (if (l0_3.length : Int) = 0 then (if a0_4 = 0 then (some ((l0_5.length : Int) == 0)) else (some false)) else (some false)) else (some false)) else (some false)) = some r := by rw [if_neg (show ¬ (false = true) by decide)] at H; exact H
  clear H
  have H := H1
  clear H1
  replace H := sqi H
  rcases H with ⟨c38, H⟩ | ⟨c38, H⟩
  ·have c38b0 : ((l0_1.length : Int) == 0) = false := beq_eq_false_iff_ne.mpr c38
   have c38b1 : ((l0_1.length : Int) != 0) = true := bne_iff_ne.mpr c38
   have c38b2 : ¬ (l0_1 = []) := fun h_ => c38 (by rw [h_]; rfl)
   obtain rfl := Option.some.inj H
   go_enter Try.func21, Try.ntmps21
   go_wp2_with (first | ((with_reducible refine gate_dst (N := 1) rfl ?_); (try (refine gate_guard (by rfl) ?_; dsimp only)); refine sqx 1 #[.bool false, .slice A0_1 l0_1.length c0_1, .slice A0_2 l0_2.length c0_2, .slice A0_3 l0_3.length c0_3, .int .i64 a0_4, .slice A0_5 l0_5.length c0_5] 39 ?_; intro gb207 hg w50 hbox hb; have BK207 := Aside0.mk hbox; have GW207 := sqg HB hg; have GE207 := sqg HB hg; replace HB := sqs HB hb; clear hb hbox hg; obtain ⟨hcz51_0, hcz51_1, hcz51_2, hcz51_3, hcz51_4, hcz51_5, hfz51_0, hfz51_1, hfz51_2, hfz51_3, hfz51_4, hfz51_5⟩ := sqc6 BK207))
   go_ret
   exact sqe HB
  have c38b0 : ((l0_1.length : Int) == 0) = true := beq_iff_eq.mpr c38
  have c38b1 : ((l0_1.length : Int) != 0) = false := bne_eq_false_iff_eq.mpr c38
  clear c38
  replace H := sqi H
  rcases H with ⟨c39, H⟩ | ⟨c39, H⟩
  ·have c39b0 : ((l0_2.length : Int) == 0) = false := beq_eq_false_iff_ne.mpr c39
   have c39b1 : ((l0_2.length : Int) != 0) = true := bne_iff_ne.mpr c39
   have c39b2 : ¬ (l0_2 = []) := fun h_ => c39 (by rw [h_]; rfl)
   obtain rfl := Option.some.inj H
   go_enter Try.func21, Try.ntmps21
   go_wp2_with (first | ((with_reducible refine gate_dst (N := 1) rfl ?_); (try (refine gate_guard (by rfl) ?_; dsimp only)); refine sqx 1 #[.bool false, .slice A0_1 l0_1.length c0_1, .slice A0_2 l0_2.length c0_2, .slice A0_3 l0_3.length c0_3, .int .i64 a0_4, .slice A0_5 l0_5.length c0_5] 39 ?_; intro gb207 hg w48 hbox hb; have BK207 := Aside0.mk hbox; have GW207 := sqg HB hg; have GE207 := sqg HB hg; replace HB := sqs HB hb; clear hb hbox hg; obtain ⟨hcz49_0, hcz49_1, hcz49_2, hcz49_3, hcz49_4, hcz49_5, hfz49_0, hfz49_1, hfz49_2, hfz49_3, hfz49_4, hfz49_5⟩ := sqc6 BK207))
   go_ret
   exact sqe HB
  have c39b0 : ((l0_2.length : Int) == 0) = true := beq_iff_eq.mpr c39
  have c39b1 : ((l0_2.length : Int) != 0) = false := bne_eq_false_iff_eq.mpr c39
  clear c39
  replace H := sqi H
  rcases H with ⟨c40, H⟩ | ⟨c40, H⟩
  ·have c40b0 : ((l0_3.length : Int) == 0) = false := beq_eq_false_iff_ne.mpr c40
   have c40b1 : ((l0_3.length : Int) != 0) = true := bne_iff_ne.mpr c40
   have c40b2 : ¬ (l0_3 = []) := fun h_ => c40 (by rw [h_]; rfl)
   obtain rfl := Option.some.inj H
   go_enter Try.func21, Try.ntmps21
   go_wp2_with (first | ((with_reducible refine gate_dst (N := 1) rfl ?_); (try (refine gate_guard (by rfl) ?_; dsimp only)); refine sqx 1 #[.bool false, .slice A0_1 l0_1.length c0_1, .slice A0_2 l0_2.length c0_2, .slice A0_3 l0_3.length c0_3, .int .i64 a0_4, .slice A0_5 l0_5.length c0_5] 39 ?_; intro gb207 hg w46 hbox hb; have BK207 := Aside0.mk hbox; have GW207 := sqg HB hg; have GE207 := sqg HB hg; replace HB := sqs HB hb; clear hb hbox hg; obtain ⟨hcz47_0, hcz47_1, hcz47_2, hcz47_3, hcz47_4, hcz47_5, hfz47_0, hfz47_1, hfz47_2, hfz47_3, hfz47_4, hfz47_5⟩ := sqc6 BK207))
   go_ret
   exact sqe HB
  have c40b0 : ((l0_3.length : Int) == 0) = true := beq_iff_eq.mpr c40
  have c40b1 : ((l0_3.length : Int) != 0) = false := bne_eq_false_iff_eq.mpr c40
  clear c40
  replace H := sqi H
  rcases H with ⟨c41, H⟩ | ⟨c41, H⟩
  ·have c41b0 : (a0_4 == 0) = false := beq_eq_false_iff_ne.mpr c41
   have c41b1 : (a0_4 != 0) = true := bne_iff_ne.mpr c41
   obtain rfl := Option.some.inj H
   go_enter Try.func21, Try.ntmps21
   go_wp2_with (first | ((with_reducible refine gate_dst (N := 1) rfl ?_); (try (refine gate_guard (by rfl) ?_; dsimp only)); refine sqx 1 #[.bool false, .slice A0_1 l0_1.length c0_1, .slice A0_2 l0_2.length c0_2, .slice A0_3 l0_3.length c0_3, .int .i64 a0_4, .slice A0_5 l0_5.length c0_5] 39 ?_; intro gb207 hg w44 hbox hb; have BK207 := Aside0.mk hbox; have GW207 := sqg HB hg; have GE207 := sqg HB hg; replace HB := sqs HB hb; clear hb hbox hg; obtain ⟨hcz45_0, hcz45_1, hcz45_2, hcz45_3, hcz45_4, hcz45_5, hfz45_0, hfz45_1, hfz45_2, hfz45_3, hfz45_4, hfz45_5⟩ := sqc6 BK207))
   go_ret
   exact sqe HB
  have c41b0 : (a0_4 == 0) = true := beq_iff_eq.mpr c41
  have c41b1 : (a0_4 != 0) = false := bne_eq_false_iff_eq.mpr c41
  clear c41
  obtain rfl := Option.some.inj H
  go_enter Try.func21, Try.ntmps21
  go_wp2_with (first | ((with_reducible refine gate_dst (N := 1) rfl ?_); (try (refine gate_guard (by rfl) ?_; dsimp only)); refine sqx 1 #[.bool false, .slice A0_1 l0_1.length c0_1, .slice A0_2 l0_2.length c0_2, .slice A0_3 l0_3.length c0_3, .int .i64 a0_4, .slice A0_5 l0_5.length c0_5] 39 ?_; intro gb207 hg w42 hbox hb; have BK207 := Aside0.mk hbox; have GW207 := sqg HB hg; have GE207 := sqg HB hg; replace HB := sqs HB hb; clear hb hbox hg; obtain ⟨hcz43_0, hcz43_1, hcz43_2, hcz43_3, hcz43_4, hcz43_5, hfz43_0, hfz43_1, hfz43_2, hfz43_3, hfz43_4, hfz43_5⟩ := sqc6 BK207))
  go_ret
  exact sqe HB
 subst c2
 have H1 : (spec_AbsOk.l0 k 0 true l0_1 l0_2 l0_3 a0_4 l0_5) = some r := by rw [if_pos rfl] at H; exact H
 clear H
 have H := H1
 clear H1
 have H' := Aside0.mk H
 clear H
 go_enter Try.func21, Try.ntmps21
 go_wp2_with (first | ((with_reducible refine gate_dst (N := 1) rfl ?_); (try (refine gate_guard (by rfl) ?_; dsimp only)); refine sqx 1 #[.bool true, .slice A0_1 l0_1.length c0_1, .slice A0_2 l0_2.length c0_2, .slice A0_3 l0_3.length c0_3, .int .i64 a0_4, .slice A0_5 l0_5.length c0_5] 39 ?_; intro gb207 hg w3 hbox hb; have BK207 := Aside0.mk hbox; have GW207 := sqg HB hg; have GE207 := sqg HB hg; replace HB := sqs HB hb; clear hb hbox hg; obtain ⟨hcz4_0, hcz4_1, hcz4_2, hcz4_3, hcz4_4, hcz4_5, hfz4_0, hfz4_1, hfz4_2, hfz4_3, hfz4_4, hfz4_5⟩ := sqc6 BK207))
 go_loopg [3] k (fun kq v3 w' => ∃ (x3_1 : Int), v3 = .int .i64 x3_1 ∧ Aside0 (spec_AbsOk.l0 kq x3_1 true l0_1 l0_2 l0_3 a0_4 l0_5 = some r) ∧ Aside0 (kq ≤ k) ∧ Aside0 (w'.heap[gb207]? = some (.cells #[.bool true, (.slice A0_1 l0_1.length c0_1), (.slice A0_2 l0_2.length c0_2), (.slice A0_3 l0_3.length c0_3), .int .i64 a0_4, (.slice A0_5 l0_5.length c0_5)] 39 (0, 0))) ∧ Aside0 (Below w.heap.size w w'))
 case atStart => exact ⟨(0), (by first | rfl | (simp; done) | (simp [*]; done)), H', ⟨Nat.le_refl _⟩, sqk BK207, sqh HB⟩
 case round =>
  clear H'
  obtain ⟨x3_1, rfl, HA, HK1, BK207, HB⟩ := hrel
  cases gk with
  | zero => exact absurd HA.out (by simp [spec_AbsOk.l0])
  | succ k1 =>
   have H := HA.out
   clear HA
   simp only [spec_AbsOk.l0] at H
   replace H := sqj H
   rcases H with ⟨c5, H⟩ | ⟨c5, H⟩
   ·have c5b0 := decide_eq_true c5
    clear c5
    replace H := sqi H
    rcases H with ⟨c6, H⟩ | ⟨c6, H⟩
    ·exact absurd H (by simp)
    have c6b0 := decide_eq_true c6
    clear c6
    replace H := Option.bind_eq_some_iff.mp H
    obtain ⟨t209, A70, H⟩ := H
    try dsimp only at H
    have A7 := Aside0.mk A70
    clear A70
    rcases sqI (t209 = true) with c8 | c8
    ·replace c8 := Bool.eq_false_iff.mpr c8
     subst c8
     have H1 : (some false) = some r := by rw [if_neg (show ¬ (false = true) by decide)] at H; exact H
     clear H
     have H := H1
     clear H1
     obtain rfl := Option.some.inj H
     obtain ⟨hcz11_0, hcz11_1, hcz11_2, hcz11_3, hcz11_4, hcz11_5, hfz11_0, hfz11_1, hfz11_2, hfz11_3, hfz11_4, hfz11_5⟩ := sqc6 BK207
     have p208 : 0 ≤ (x3_1 : Int) := sqd
     have q208 : x3_1 < (l0_2.length : Int) := sqd
     obtain ⟨ad208, A208_1, c208_1, e208, hx208_0, hx208_1, hx208_2, hx208_3, hx208_4, hx208_5, hl208_1, hi208_1⟩ := at_T63 HR0_2.out x3_1 p208 q208
     cases e208
     replace hx208_0 := sqa HB hx208_0
     replace hx208_1 := sqa HB hx208_1
     replace hx208_2 := sqa HB hx208_2
     replace hx208_3 := sqa HB hx208_3
     replace hx208_4 := sqa HB hx208_4
     replace hx208_5 := sqa HB hx208_5
     have HR208_1 := Aside0.mk hi208_1
     have HC208_1 := Aside0.mk hl208_1
     clear hi208_1 hl208_1
     replace p208 := eq_true p208
     replace q208 := eq_true q208
     go_wp2_with (first | ((with_reducible refine gate_callee (f := 41) rfl ?_); refine sqL (some 48) Try.func41 #[.agg #[.bool ((rd_T63 l0_2 x3_1).f0), .slice A208_1 ((rd_T63 l0_2 x3_1).f1).length c208_1, .int .i64 ((rd_T63 l0_2 x3_1).f2.f0), .int .i64 ((rd_T63 l0_2 x3_1).f2.f1), .int .i64 ((rd_T63 l0_2 x3_1).f2.f2), .int .i64 ((rd_T63 l0_2 x3_1).f2.f3)]] ?_; (with_reducible refine (spec_l12RefOk.calls k1 ((rd_T63 l0_2 x3_1).f0) _ _ ((rd_T63 l0_2 x3_1).f1) ((rd_T63 l0_2 x3_1).f2.f0) ((rd_T63 l0_2 x3_1).f2.f1) ((rd_T63 l0_2 x3_1).f2.f2) ((rd_T63 l0_2 x3_1).f2.f3) false _ ?side1 ?side2 A7.out).mono ?_); (case side1 => exact sqC (Kd.C_below HR208_1.out HB.out)); (case side2 => exact HC208_1.out); rintro e w12 ⟨rfl, hb⟩; refine ⟨_, rfl, ?_⟩; replace BK207 := sqb BK207 hb; replace HB := sqs HB hb; (try clear hb)))
     go_ret
     exact sqe HB
    subst c8
    have H1 : (spec_AbsOk.l0 k1 (wrap64 (x3_1 + 1)) true l0_1 l0_2 l0_3 a0_4 l0_5) = some r := by rw [if_pos rfl] at H; exact H
    clear H
    have H := H1
    clear H1
    have H' := Aside0.mk H
    clear H
    obtain ⟨hcz9_0, hcz9_1, hcz9_2, hcz9_3, hcz9_4, hcz9_5, hfz9_0, hfz9_1, hfz9_2, hfz9_3, hfz9_4, hfz9_5⟩ := sqc6 BK207
    have p208 : 0 ≤ (x3_1 : Int) := sqd
    have q208 : x3_1 < (l0_2.length : Int) := sqd
    obtain ⟨ad208, A208_1, c208_1, e208, hx208_0, hx208_1, hx208_2, hx208_3, hx208_4, hx208_5, hl208_1, hi208_1⟩ := at_T63 HR0_2.out x3_1 p208 q208
    cases e208
    replace hx208_0 := sqa HB hx208_0
    replace hx208_1 := sqa HB hx208_1
    replace hx208_2 := sqa HB hx208_2
    replace hx208_3 := sqa HB hx208_3
    replace hx208_4 := sqa HB hx208_4
    replace hx208_5 := sqa HB hx208_5
    have HR208_1 := Aside0.mk hi208_1
    have HC208_1 := Aside0.mk hl208_1
    clear hi208_1 hl208_1
    replace p208 := eq_true p208
    replace q208 := eq_true q208
    go_wp2_with (first | ((with_reducible refine gate_callee (f := 41) rfl ?_); refine sqL (some 48) Try.func41 #[.agg #[.bool ((rd_T63 l0_2 x3_1).f0), .slice A208_1 ((rd_T63 l0_2 x3_1).f1).length c208_1, .int .i64 ((rd_T63 l0_2 x3_1).f2.f0), .int .i64 ((rd_T63 l0_2 x3_1).f2.f1), .int .i64 ((rd_T63 l0_2 x3_1).f2.f2), .int .i64 ((rd_T63 l0_2 x3_1).f2.f3)]] ?_; (with_reducible refine (spec_l12RefOk.calls k1 ((rd_T63 l0_2 x3_1).f0) _ _ ((rd_T63 l0_2 x3_1).f1) ((rd_T63 l0_2 x3_1).f2.f0) ((rd_T63 l0_2 x3_1).f2.f1) ((rd_T63 l0_2 x3_1).f2.f2) ((rd_T63 l0_2 x3_1).f2.f3) true _ ?side1 ?side2 A7.out).mono ?_); (case side1 => exact sqC (Kd.C_below HR208_1.out HB.out)); (case side2 => exact HC208_1.out); rintro e w10 ⟨rfl, hb⟩; refine ⟨_, rfl, ?_⟩; replace BK207 := sqb BK207 hb; replace HB := sqs HB hb; (try clear hb)))
    go_roundg k1
    case measure => have := HK1.out; omega
    case rel => exact ⟨(wrap64 (x3_1 + 1)), (by first | rfl | (simp; done) | (simp [*]; done)), H', ⟨by have := HK1.out; omega⟩, sqk BK207, sqh HB⟩
   have c5b0 := decide_eq_false c5
   clear c5
   replace H := Option.bind_eq_some_iff.mp H
   obtain ⟨t210, A130, H⟩ := H
   try dsimp only at H
   have A13 := Aside0.mk A130
   clear A130
   rcases sqI (t210 = true) with c14 | c14
   ·replace c14 := Bool.eq_false_iff.mpr c14
    subst c14
    have H1 : (some false) = some r := by rw [if_neg (show ¬ (false = true) by decide)] at H; exact H
    clear H
    have H := H1
    clear H1
    obtain rfl := Option.some.inj H
    obtain ⟨hcz36_0, hcz36_1, hcz36_2, hcz36_3, hcz36_4, hcz36_5, hfz36_0, hfz36_1, hfz36_2, hfz36_3, hfz36_4, hfz36_5⟩ := sqc6 BK207
    go_wp2_with (first | ((with_reducible refine gate_callee (f := 42) rfl ?_); refine sqL (some 52) Try.func42 #[.slice A0_1 l0_1.length c0_1] ?_; (with_reducible refine (spec_l12Vals.calls k1 _ _ l0_1 false _ ?side1 ?side2 A13.out).mono ?_); (case side1 => exact sqC (Kd.C_below HR0_1.out HB.out)); (case side2 => exact HC0_1.out); rintro e w37 ⟨rfl, hb⟩; refine ⟨_, rfl, ?_⟩; replace BK207 := sqb BK207 hb; replace HB := sqs HB hb; (try clear hb)))
    go_ret
    exact sqe HB
   subst c14
   have H1 : ((spec_l12Vals.f k1 l0_3).bind fun t211 => (if t211 = true then ((spec_GapsOk.f k1 a0_4 l0_5).bind fun t212 => (if t212 = true then (some (a0_4 == (l0_1.length : Int))) else (some false))) else (some false))) = some r := by rw [if_pos rfl] at H; exact H
   clear H
   have H := H1
   clear H1
   replace H := Option.bind_eq_some_iff.mp H
   obtain ⟨t211, A150, H⟩ := H
   try dsimp only at H
   have A15 := Aside0.mk A150
   clear A150
   rcases sqI (t211 = true) with c16 | c16
   ·replace c16 := Bool.eq_false_iff.mpr c16
    subst c16
    have H1 : (some false) = some r := by rw [if_neg (show ¬ (false = true) by decide)] at H; exact H
    clear H
    have H := H1
    clear H1
    obtain rfl := Option.some.inj H
    obtain ⟨hcz32_0, hcz32_1, hcz32_2, hcz32_3, hcz32_4, hcz32_5, hfz32_0, hfz32_1, hfz32_2, hfz32_3, hfz32_4, hfz32_5⟩ := sqc6 BK207
    go_wp2_with (first | ((with_reducible refine gate_callee (f := 42) rfl ?_); refine sqL (some 52) Try.func42 #[.slice A0_1 l0_1.length c0_1] ?_; (with_reducible refine (spec_l12Vals.calls k1 _ _ l0_1 true _ ?side1 ?side2 A13.out).mono ?_); (case side1 => exact sqC (Kd.C_below HR0_1.out HB.out)); (case side2 => exact HC0_1.out); rintro e w33 ⟨rfl, hb⟩; refine ⟨_, rfl, ?_⟩; replace BK207 := sqb BK207 hb; replace HB := sqs HB hb; (try clear hb); obtain ⟨hcz34_0, hcz34_1, hcz34_2, hcz34_3, hcz34_4, hcz34_5, hfz34_0, hfz34_1, hfz34_2, hfz34_3, hfz34_4, hfz34_5⟩ := sqc6 BK207) | (go_at_call 42; (with_reducible refine (spec_l12Vals.calls k1 _ _ l0_3 false _ ?side1 ?side2 A15.out).mono ?_); (case side1 => exact sqC (Kd.C_below HR0_3.out HB.out)); (case side2 => exact HC0_3.out); rintro e w35 ⟨rfl, hb⟩; replace BK207 := sqb BK207 hb; replace HB := sqs HB hb; (try clear hb)))
    go_ret
    exact sqe HB
   subst c16
   have H1 : ((spec_GapsOk.f k1 a0_4 l0_5).bind fun t212 => (if t212 = true then (some (a0_4 == (l0_1.length : Int))) else (some false))) = some r := by rw [if_pos rfl] at H; exact H
   clear H
   have H := H1
   clear H1
   replace H := Option.bind_eq_some_iff.mp H
   obtain ⟨t212, A170, H⟩ := H
   try dsimp only at H
   have A17 := Aside0.mk A170
   clear A170
   rcases sqI (t212 = true) with c18 | c18
   ·replace c18 := Bool.eq_false_iff.mpr c18
    subst c18
    have H1 : (some false) = some r := by rw [if_neg (show ¬ (false = true) by decide)] at H; exact H
    clear H
    have H := H1
    clear H1
    obtain rfl := Option.some.inj H
    obtain ⟨hcz26_0, hcz26_1, hcz26_2, hcz26_3, hcz26_4, hcz26_5, hfz26_0, hfz26_1, hfz26_2, hfz26_3, hfz26_4, hfz26_5⟩ := sqc6 BK207
    go_wp2_with (first | ((with_reducible refine gate_callee (f := 42) rfl ?_); refine sqL (some 52) Try.func42 #[.slice A0_1 l0_1.length c0_1] ?_; (with_reducible refine (spec_l12Vals.calls k1 _ _ l0_1 true _ ?side1 ?side2 A13.out).mono ?_); (case side1 => exact sqC (Kd.C_below HR0_1.out HB.out)); (case side2 => exact HC0_1.out); rintro e w27 ⟨rfl, hb⟩; refine ⟨_, rfl, ?_⟩; replace BK207 := sqb BK207 hb; replace HB := sqs HB hb; (try clear hb); obtain ⟨hcz28_0, hcz28_1, hcz28_2, hcz28_3, hcz28_4, hcz28_5, hfz28_0, hfz28_1, hfz28_2, hfz28_3, hfz28_4, hfz28_5⟩ := sqc6 BK207) | (go_at_call 42; (with_reducible refine (spec_l12Vals.calls k1 _ _ l0_3 true _ ?side1 ?side2 A15.out).mono ?_); (case side1 => exact sqC (Kd.C_below HR0_3.out HB.out)); (case side2 => exact HC0_3.out); rintro e w29 ⟨rfl, hb⟩; replace BK207 := sqb BK207 hb; replace HB := sqs HB hb; (try clear hb); obtain ⟨hcz30_0, hcz30_1, hcz30_2, hcz30_3, hcz30_4, hcz30_5, hfz30_0, hfz30_1, hfz30_2, hfz30_3, hfz30_4, hfz30_5⟩ := sqc6 BK207) | (go_at_call 43; (with_reducible refine (spec_GapsOk.calls k1 a0_4 _ _ l0_5 false _ ?side1 ?side2 A17.out).mono ?_); (case side1 => exact sqC (Kd.C_below HR0_5.out HB.out)); (case side2 => exact HC0_5.out); rintro e w31 ⟨rfl, hb⟩; replace BK207 := sqb BK207 hb; replace HB := sqs HB hb; (try clear hb)))
    go_ret
    exact sqe HB
   subst c18
   have H1 : (some (a0_4 == (l0_1.length : Int))) = some r := by rw [if_pos rfl] at H; exact H
   clear H
   have H := H1
   clear H1
   obtain rfl := Option.some.inj H
   obtain ⟨hcz19_0, hcz19_1, hcz19_2, hcz19_3, hcz19_4, hcz19_5, hfz19_0, hfz19_1, hfz19_2, hfz19_3, hfz19_4, hfz19_5⟩ := sqc6 BK207
   go_wp2_with (first | ((with_reducible refine gate_callee (f := 42) rfl ?_); refine sqL (some 52) Try.func42 #[.slice A0_1 l0_1.length c0_1] ?_; (with_reducible refine (spec_l12Vals.calls k1 _ _ l0_1 true _ ?side1 ?side2 A13.out).mono ?_); (case side1 => exact sqC (Kd.C_below HR0_1.out HB.out)); (case side2 => exact HC0_1.out); rintro e w20 ⟨rfl, hb⟩; refine ⟨_, rfl, ?_⟩; replace BK207 := sqb BK207 hb; replace HB := sqs HB hb; (try clear hb); obtain ⟨hcz21_0, hcz21_1, hcz21_2, hcz21_3, hcz21_4, hcz21_5, hfz21_0, hfz21_1, hfz21_2, hfz21_3, hfz21_4, hfz21_5⟩ := sqc6 BK207) | (go_at_call 42; (with_reducible refine (spec_l12Vals.calls k1 _ _ l0_3 true _ ?side1 ?side2 A15.out).mono ?_); (case side1 => exact sqC (Kd.C_below HR0_3.out HB.out)); (case side2 => exact HC0_3.out); rintro e w22 ⟨rfl, hb⟩; replace BK207 := sqb BK207 hb; replace HB := sqs HB hb; (try clear hb); obtain ⟨hcz23_0, hcz23_1, hcz23_2, hcz23_3, hcz23_4, hcz23_5, hfz23_0, hfz23_1, hfz23_2, hfz23_3, hfz23_4, hfz23_5⟩ := sqc6 BK207) | (go_at_call 43; (with_reducible refine (spec_GapsOk.calls k1 a0_4 _ _ l0_5 true _ ?side1 ?side2 A17.out).mono ?_); (case side1 => exact sqC (Kd.C_below HR0_5.out HB.out)); (case side2 => exact HC0_5.out); rintro e w24 ⟨rfl, hb⟩; replace BK207 := sqb BK207 hb; replace HB := sqs HB hb; (try clear hb); obtain ⟨hcz25_0, hcz25_1, hcz25_2, hcz25_3, hcz25_4, hcz25_5, hfz25_0, hfz25_1, hfz25_2, hfz25_3, hfz25_4, hfz25_5⟩ := sqc6 BK207))
   go_ret
   exact sqe HB

/-! ### spec_RestHas: function 48 -/
set_option maxHeartbeats 8000000 in
set_option maxRecDepth 100000 in
theorem spec_RestHas.calls (k : Nat) (a0_0 : Int) (a0_1 : Int) (a1 : Int) (r : Bool) (w : World) (h : spec_RestHas.f k a0_0 a0_1 a1 = some r) :
  Calls Try.prog 48 #[.agg #[.int .i64 a0_0, .int .i64 a0_1], .int .i64 a1] w fun e w' => e = .returned (.bool r) ∧ Below w.heap.size w w' := by
 have hu96 := Try.underlying96
 have HB := Aside0.mk (Below.refl w.heap.size w)
 have H := h
 unfold spec_RestHas.f at H
 clear h
 have HC3 := Aside0.mk H
 clear H
 go_enter Try.func48, Try.ntmps48
 go_upto_region 1 with (first | ((with_reducible refine gate_dst (N := 2) rfl ?_); refine sqx 2 #[.int .i64 a0_0, .int .i64 a0_1] 96 ?_; intro gb213 hg w4 hbox hb; have BK213 := Aside0.mk hbox; have GW213 := sqg HB hg; have GE213 := sqg HB hg; replace HB := sqs HB hb; clear hb hbox hg))
 repeat (go_quiet (first | ((with_reducible refine gate_dst (N := 2) rfl ?_); refine sqx 2 #[.int .i64 a0_0, .int .i64 a0_1] 96 ?_; intro gb213 hg w4 hbox hb; have BK213 := Aside0.mk hbox; have GW213 := sqg HB hg; have GE213 := sqg HB hg; replace HB := sqs HB hb; clear hb hbox hg)); go_upto_region 1 with (first | ((with_reducible refine gate_dst (N := 2) rfl ?_); refine sqx 2 #[.int .i64 a0_0, .int .i64 a0_1] 96 ?_; intro gb213 hg w4 hbox hb; have BK213 := Aside0.mk hbox; have GW213 := sqg HB hg; have GE213 := sqg HB hg; replace HB := sqs HB hb; clear hb hbox hg)))
 (try simp only [Act.put, List.setIfInBounds_toArray, List.set_cons_zero, List.set_cons_succ])
 go_cut [12] (fun v12 wc => ∃ (kq : Nat) (x12_2 : Bool), v12 = .bool x12_2 ∧ Aside0 (spec_RestHas.j0 kq a1 x12_2 a0_0 a0_1 = some r) ∧ Aside0 (kq ≤ k) ∧ Aside0 (wc.heap[gb213]? = some (.cells #[.int .i64 a0_0, .int .i64 a0_1] 96 (0, 0))) ∧ Aside0 (Below w.heap.size w wc))
 case first =>
  have H := HC3.out
  clear HC3
  replace H := Option.bind_eq_some_iff.mp H
  obtain ⟨t214, A50, H⟩ := H
  try dsimp only at H
  have A5 := Aside0.mk A50
  clear A50
  rcases sqI (t214 = true) with c6 | c6
  ·replace c6 := Bool.eq_false_iff.mpr c6
   subst c6
   have H1 : (spec_RestHas.j0 k a1 true a0_0 a0_1) = some r := by rw [if_neg (show ¬ (false = true) by decide)] at H; exact H
   clear H
   have H := H1
   clear H1
   have H' := Aside0.mk H
   clear H
   obtain ⟨hcz10_0, hcz10_1, hfz10_0, hfz10_1⟩ := sqc2 BK213
   go_wp2_with (first | (go_at_call 70; (with_reducible refine (spec_RestOk.calls a0_0 a0_1 false _ A5.out).mono ?_); rintro e w11 ⟨rfl, hb⟩; replace BK213 := sqb BK213 hb; replace HB := sqs HB hb; (try clear hb)))
   repeat (go_quiet (first | (go_at_call 70; (with_reducible refine (spec_RestOk.calls a0_0 a0_1 false _ A5.out).mono ?_); rintro e w11 ⟨rfl, hb⟩; replace BK213 := sqb BK213 hb; replace HB := sqs HB hb; (try clear hb))); try go_wp2_with (first | (go_at_call 70; (with_reducible refine (spec_RestOk.calls a0_0 a0_1 false _ A5.out).mono ?_); rintro e w11 ⟨rfl, hb⟩; replace BK213 := sqb BK213 hb; replace HB := sqs HB hb; (try clear hb))))
   go_meet
   case rel => exact ⟨_, (true), (by first | rfl | (simp; done) | (simp [*]; done)), H', ⟨by first | omega | exact Nat.le_refl _⟩, sqk BK213, sqh HB⟩
  subst c6
  have H1 : ((spec_NumOk.f a1).bind fun t215 => (spec_RestHas.j0 k a1 (!t215) a0_0 a0_1)) = some r := by rw [if_pos rfl] at H; exact H
  clear H
  have H := H1
  clear H1
  replace H := Option.bind_eq_some_iff.mp H
  obtain ⟨t215, A70, H⟩ := H
  try dsimp only at H
  have A7 := Aside0.mk A70
  clear A70
  have H' := Aside0.mk H
  clear H
  obtain ⟨hcz8_0, hcz8_1, hfz8_0, hfz8_1⟩ := sqc2 BK213
  go_wp2_with (first | (go_at_call 70; (with_reducible refine (spec_RestOk.calls a0_0 a0_1 true _ A5.out).mono ?_); rintro e w9 ⟨rfl, hb⟩; replace BK213 := sqb BK213 hb; replace HB := sqs HB hb; (try clear hb)) | (go_at_call 51; (with_reducible refine (spec_NumOk.calls a1 t215 _ A7.out).mono ?_); rintro e w' ⟨rfl, ⟨nd, rfl⟩⟩; (try first | exact ⟨rfl, _, World.drewN_drewN _ _ _⟩ | exact ⟨rfl, _, Eq.trans (World.drewN_drewN _ _ _) (congrArg (World.drewN _) (Nat.add_assoc _ _ _))⟩)))
  repeat (go_quiet (first | (go_at_call 70; (with_reducible refine (spec_RestOk.calls a0_0 a0_1 true _ A5.out).mono ?_); rintro e w9 ⟨rfl, hb⟩; replace BK213 := sqb BK213 hb; replace HB := sqs HB hb; (try clear hb)) | (go_at_call 51; (with_reducible refine (spec_NumOk.calls a1 t215 _ A7.out).mono ?_); rintro e w' ⟨rfl, ⟨nd, rfl⟩⟩; (try first | exact ⟨rfl, _, World.drewN_drewN _ _ _⟩ | exact ⟨rfl, _, Eq.trans (World.drewN_drewN _ _ _) (congrArg (World.drewN _) (Nat.add_assoc _ _ _))⟩))); try go_wp2_with (first | (go_at_call 70; (with_reducible refine (spec_RestOk.calls a0_0 a0_1 true _ A5.out).mono ?_); rintro e w9 ⟨rfl, hb⟩; replace BK213 := sqb BK213 hb; replace HB := sqs HB hb; (try clear hb)) | (go_at_call 51; (with_reducible refine (spec_NumOk.calls a1 t215 _ A7.out).mono ?_); rintro e w' ⟨rfl, ⟨nd, rfl⟩⟩; (try first | exact ⟨rfl, _, World.drewN_drewN _ _ _⟩ | exact ⟨rfl, _, Eq.trans (World.drewN_drewN _ _ _) (congrArg (World.drewN _) (Nat.add_assoc _ _ _))⟩))))
  go_meet
  case rel => exact ⟨_, (!t215), (by first | rfl | (simp; done) | (simp [*]; done)), H', ⟨by first | omega | exact Nat.le_refl _⟩, sqk BK213, sqh HB⟩
 case rest =>
  clear HC3
  obtain ⟨kq, x12_2, rfl, HA, HJ2, BK213, HB⟩ := hcut
  cases kq with
  | zero => exact absurd HA.out (by simp [spec_RestHas.j0])
  | succ kj2 =>
   have H := HA.out
   clear HA
   simp only [spec_RestHas.j0] at H
   by_cases c12 : x12_2 = true
   ·subst c12
    have H1 : (some false) = some r := by rw [if_pos rfl] at H; exact H
    clear H
    have H := H1
    clear H1
    obtain rfl := Option.some.inj H
    go_wp2
    repeat (go_quiet (fail); try go_wp2)
    go_ret
    exact sqe HB
   replace c12 := Bool.eq_false_iff.mpr c12
   subst c12
   have H1 : (if a0_0 = 0 then (some (a1 == a0_1)) else ((spec_l1Mod.f a1 a0_0).bind fun t216 => (some (t216 == a0_1)))) = some r := by rw [if_neg (show ¬ (false = true) by decide)] at H; exact H
   clear H
   have H := H1
   clear H1
   replace H := sqj H
   rcases H with ⟨c13, H⟩ | ⟨c13, H⟩
   ·have c13b0 : (a0_0 == 0) = true := beq_iff_eq.mpr c13
    have c13b1 : (a0_0 != 0) = false := bne_eq_false_iff_eq.mpr c13
    clear c13
    obtain rfl := Option.some.inj H
    obtain ⟨hcz14_0, hcz14_1, hfz14_0, hfz14_1⟩ := sqc2 BK213
    go_wp2
    repeat (go_quiet (fail); try go_wp2)
    go_ret
    exact sqe HB
   have c13b0 : (a0_0 == 0) = false := beq_eq_false_iff_ne.mpr c13
   have c13b1 : (a0_0 != 0) = true := bne_iff_ne.mpr c13
   replace H := Option.bind_eq_some_iff.mp H
   obtain ⟨t216, A150, H⟩ := H
   try dsimp only at H
   have A15 := Aside0.mk A150
   clear A150
   obtain rfl := Option.some.inj H
   obtain ⟨hcz16_0, hcz16_1, hfz16_0, hfz16_1⟩ := sqc2 BK213
   go_wp2_with (first | (go_at_call 72; (with_reducible refine (spec_l1Mod.calls a1 a0_0 t216 _ A15.out).mono ?_); rintro e w' ⟨rfl, ⟨nd, rfl⟩⟩; (try first | exact ⟨rfl, _, World.drewN_drewN _ _ _⟩ | exact ⟨rfl, _, Eq.trans (World.drewN_drewN _ _ _) (congrArg (World.drewN _) (Nat.add_assoc _ _ _))⟩)))
   repeat (go_quiet (first | (go_at_call 72; (with_reducible refine (spec_l1Mod.calls a1 a0_0 t216 _ A15.out).mono ?_); rintro e w' ⟨rfl, ⟨nd, rfl⟩⟩; (try first | exact ⟨rfl, _, World.drewN_drewN _ _ _⟩ | exact ⟨rfl, _, Eq.trans (World.drewN_drewN _ _ _) (congrArg (World.drewN _) (Nat.add_assoc _ _ _))⟩))); try go_wp2_with (first | (go_at_call 72; (with_reducible refine (spec_l1Mod.calls a1 a0_0 t216 _ A15.out).mono ?_); rintro e w' ⟨rfl, ⟨nd, rfl⟩⟩; (try first | exact ⟨rfl, _, World.drewN_drewN _ _ _⟩ | exact ⟨rfl, _, Eq.trans (World.drewN_drewN _ _ _) (congrArg (World.drewN _) (Nat.add_assoc _ _ _))⟩))))
   go_ret
   exact sqe HB

end Go.Proofs.Ytnmgckdgmplddaa.PFnExactAbsHas
