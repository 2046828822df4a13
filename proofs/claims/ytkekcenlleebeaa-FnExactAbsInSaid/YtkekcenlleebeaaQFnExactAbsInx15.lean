/- Functions of the program as plain Lean functions, and that calls of them come to what these tell. Conditions: those in each law. -/
import Derived.Test.YtkekcenlleebeaaSq
import Derived.Test.YtkekcenlleebeaaDFnExactAbsIn
import Derived.Test.YtkekcenlleebeaaQFnExactAbsInx0
import Derived.Test.YtkekcenlleebeaaQFnExactAbsInx7
import Derived.Test.YtkekcenlleebeaaQFnExactAbsInx13
import Derived.Test.YtkekcenlleebeaaQFnExactAbsInx14
namespace Go.Proofs.Ytkekcenlleebeaa.PFnExactAbsIn
open Go.RowKit Go.Proofs.Ytkekcenlleebeaa.Sq Go.Proofs.YtkekcenlleebeaaW.PrintWords Go.Proofs.YtkekcenlleebeaaW.PrintLast Go.Proofs.YtkekcenlleebeaaW.PrintMore
attribute [local go_sem] max2_int min2_int max_two min_two max_three min_three max_four min_four   -- for this text's walks alone
set_option linter.unusedVariables false
set_option linter.unusedSimpArgs false

/-! ### spec_AbsOk: function 58 -/
set_option maxHeartbeats 8000000 in
set_option maxRecDepth 100000 in
theorem spec_AbsOk.calls (k : Nat) (a0_0 : Bool) (A0_1 : Option Addr) (c0_1 : Nat) (l0_1 : List (S30)) (A0_2 : Option Addr) (c0_2 : Nat) (l0_2 : List (S132)) (A0_3 : Option Addr) (c0_3 : Nat) (l0_3 : List (S30)) (a0_4 : Int) (A0_5 : Option Addr) (c0_5 : Nat) (l0_5 : List Int) (r : Bool) (w : World) (hr0_1 : Kd.C k30 w A0_1 l0_1.length l0_1) (hc0_1 : l0_1.length ≤ c0_1) (hr0_2 : Kd.C k132 w A0_2 l0_2.length l0_2) (hc0_2 : l0_2.length ≤ c0_2) (hr0_3 : Kd.C k30 w A0_3 l0_3.length l0_3) (hc0_3 : l0_3.length ≤ c0_3) (hr0_5 : Kd.C (Kd.int .i64) w A0_5 l0_5.length l0_5) (hc0_5 : l0_5.length ≤ c0_5) (h : spec_AbsOk.f k a0_0 l0_1 l0_2 l0_3 a0_4 l0_5 = some r) :
  Calls Try.prog 58 #[.agg #[.bool a0_0, .slice A0_1 l0_1.length c0_1, .slice A0_2 l0_2.length c0_2, .slice A0_3 l0_3.length c0_3, .int .i64 a0_4, .slice A0_5 l0_5.length c0_5]] w fun e w' => e = .returned (.bool r) ∧ Below w.heap.size w w' := by
 have hu78 := Try.underlying78
 have hu132 := Try.underlying132
 have hu41 := Try.underlying41
 have HR0_1 := Aside0.mk hr0_1
 have HC0_1 := Aside0.mk hc0_1
 clear hr0_1 hc0_1
 have HR0_2 := Aside0.mk hr0_2
 have HC0_2 := Aside0.mk hc0_2
 clear hr0_2 hc0_2
 have HR0_3 := Aside0.mk hr0_3
 have HC0_3 := Aside0.mk hc0_3
 clear hr0_3 hc0_3
 have HR0_5 := Aside0.mk hr0_5
 have HC0_5 := Aside0.mk hc0_5
 clear hr0_5 hc0_5
 have HB := Aside0.mk (Below.refl w.heap.size w)
 have H : (if a0_0 = true then (spec_AbsOk.l0 k 0 a0_0 l0_1 l0_2 l0_3 a0_4 l0_5) else (if (l0_1.length : Int) = 0 then (if (l0_2.length : Int) = 0 then (if (l0_3.length : Int) = 0 then (if a0_4 = 0 then (some ((l0_5.length : Int) == 0)) else (some false)) else (some false)) else (some false)) else (some false))) = some r := h
 clear h
 rcases sqI (a0_0 = true) with c2 | c2
 ·replace c2 := Bool.eq_false_iff.mpr c2
  subst c2
  have H1 : (if (l0_1.length : Int) = 0 then (if (l0_2.length : Int) = 0 then (if (l0_3.length : Int) = 0 then (if a0_4 = 0 then (some ((l0_5.length : Int) == 0)) else (some false)) else (some false)) else (some false)) else (some false)) = some r := by rw [if_neg (show ¬ (false = true) by decide)] at H; exact H
  clear H
  have H := H1
  clear H1
  replace H := sqi H
  rcases H with ⟨c38, H⟩ | ⟨c38, H⟩
  ·have c38b0 : ((l0_1.length : Int) == 0) = false := beq_eq_false_iff_ne.mpr c38
   have c38b1 : ((l0_1.length : Int) != 0) = true := bne_iff_ne.mpr c38
   have c38b2 : ¬ (l0_1 = []) := fun h_ => c38 (by rw [h_]; rfl)
   obtain rfl := Option.some.inj H
   go_enter Try.func58, Try.ntmps58
   go_wp2_with (first | ((with_reducible refine gate_dst (N := 1) rfl ?_); (try (refine gate_guard (by rfl) ?_; dsimp only)); refine sqx 1 #[.bool false, .slice A0_1 l0_1.length c0_1, .slice A0_2 l0_2.length c0_2, .slice A0_3 l0_3.length c0_3, .int .i64 a0_4, .slice A0_5 l0_5.length c0_5] 78 ?_; intro gb288 hg w50 hbox hb; have BK288 := Aside0.mk hbox; have GW288 := sqg HB hg; have GE288 := sqg HB hg; replace HB := sqs HB hb; clear hb hbox hg; obtain ⟨hcz51_0, hcz51_1, hcz51_2, hcz51_3, hcz51_4, hcz51_5, hfz51_0, hfz51_1, hfz51_2, hfz51_3, hfz51_4, hfz51_5⟩ := sqc6 BK288))
   go_ret
   exact sqe HB
  have c38b0 : ((l0_1.length : Int) == 0) = true := beq_iff_eq.mpr c38
  have c38b1 : ((l0_1.length : Int) != 0) = false := bne_eq_false_iff_eq.mpr c38
  clear c38
  replace H := sqi H
  rcases H with ⟨c39, H⟩ | ⟨c39, H⟩
  ·have c39b0 : ((l0_2.length : Int) == 0) = false := beq_eq_false_iff_ne.mpr c39
   have c39b1 : ((l0_2.length : Int) != 0) = true := bne_iff_ne.mpr c39
   have c39b2 : ¬ (l0_2 = []) := fun h_ => c39 (by rw [h_]; rfl)
   obtain rfl := Option.some.inj H
   go_enter Try.func58, Try.ntmps58
   go_wp2_with (first | ((with_reducible refine gate_dst (N := 1) rfl ?_); (try (refine gate_guard (by rfl) ?_; dsimp only)); refine sqx 1 #[.bool false, .slice A0_1 l0_1.length c0_1, .slice A0_2 l0_2.length c0_2, .slice A0_3 l0_3.length c0_3, .int .i64 a0_4, .slice A0_5 l0_5.length c0_5] 78 ?_; intro gb288 hg w48 hbox hb; have BK288 := Aside0.mk hbox; have GW288 := sqg HB hg; have GE288 := sqg HB hg; replace HB := sqs HB hb; clear hb hbox hg; obtain ⟨hcz49_0, hcz49_1, hcz49_2, hcz49_3, hcz49_4, hcz49_5, hfz49_0, hfz49_1, hfz49_2, hfz49_3, hfz49_4, hfz49_5⟩ := sqc6 BK288))
   go_ret
   exact sqe HB
  have c39b0 : ((l0_2.length : Int) == 0) = true := beq_iff_eq.mpr c39
  have c39b1 : ((l0_2.length : Int) != 0) = false := bne_eq_false_iff_eq.mpr c39
  clear c39
  replace H := sqi H
  rcases H with ⟨c40, H⟩ | ⟨c40, H⟩
  ·have c40b0 : ((l0_3.length : Int) == 0) = false := beq_eq_false_iff_ne.mpr c40
   have c40b1 : ((l0_3.length : Int) != 0) = true := bne_iff_ne.mpr c40
   have c40b2 : ¬ (l0_3 = []) := fun h_ => c40 (by rw [h_]; rfl)
   obtain rfl := Option.some.inj H
   go_enter Try.func58, Try.ntmps58
   go_wp2_with (first | ((with_reducible refine gate_dst (N := 1) rfl ?_); (try (refine gate_guard (by rfl) ?_; dsimp only)); refine sqx 1 #[.bool false, .slice A0_1 l0_1.length c0_1, .slice A0_2 l0_2.length c0_2, .slice A0_3 l0_3.length c0_3, .int .i64 a0_4, .slice A0_5 l0_5.length c0_5] 78 ?_; intro gb288 hg w46 hbox hb; have BK288 := Aside0.mk hbox; have GW288 := sqg HB hg; have GE288 := sqg HB hg; replace HB := sqs HB hb; clear hb hbox hg; obtain ⟨hcz47_0, hcz47_1, hcz47_2, hcz47_3, hcz47_4, hcz47_5, hfz47_0, hfz47_1, hfz47_2, hfz47_3, hfz47_4, hfz47_5⟩ := sqc6 BK288))
   go_ret
   exact sqe HB
  have c40b0 : ((l0_3.length : Int) == 0) = true := beq_iff_eq.mpr c40
  have c40b1 : ((l0_3.length : Int) != 0) = false := bne_eq_false_iff_eq.mpr c40
  clear c40
  replace H := sqi H
  rcases H with ⟨c41, H⟩ | ⟨c41, H⟩
  ·have c41b0 : (a0_4 == 0) = false := beq_eq_false_iff_ne.mpr c41
   have c41b1 : (a0_4 != 0) = true := bne_iff_ne.mpr c41
   obtain rfl := Option.some.inj H
   go_enter Try.func58, Try.ntmps58
   go_wp2_with (first | ((with_reducible refine gate_dst (N := 1) rfl ?_); (try (refine gate_guard (by rfl) ?_; dsimp only)); refine sqx 1 #[.bool false, .slice A0_1 l0_1.length c0_1, .slice A0_2 l0_2.length c0_2, .slice A0_3 l0_3.length c0_3, .int .i64 a0_4, .slice A0_5 l0_5.length c0_5] 78 ?_; intro gb288 hg w44 hbox hb; have BK288 := Aside0.mk hbox; have GW288 := sqg HB hg; have GE288 := sqg HB hg; replace HB := sqs HB hb; clear hb hbox hg; obtain ⟨hcz45_0, hcz45_1, hcz45_2, hcz45_3, hcz45_4, hcz45_5, hfz45_0, hfz45_1, hfz45_2, hfz45_3, hfz45_4, hfz45_5⟩ := sqc6 BK288))
   go_ret
   exact sqe HB
  have c41b0 : (a0_4 == 0) = true := beq_iff_eq.mpr c41
  have c41b1 : (a0_4 != 0) = false := bne_eq_false_iff_eq.mpr c41
  clear c41
  obtain rfl := Option.some.inj H
  go_enter Try.func58, Try.ntmps58
  go_wp2_with (first | ((with_reducible refine gate_dst (N := 1) rfl ?_); (try (refine gate_guard (by rfl) ?_; dsimp only)); refine sqx 1 #[.bool false, .slice A0_1 l0_1.length c0_1, .slice A0_2 l0_2.length c0_2, .slice A0_3 l0_3.length c0_3, .int .i64 a0_4, .slice A0_5 l0_5.length c0_5] 78 ?_; intro gb288 hg w42 hbox hb; have BK288 := Aside0.mk hbox; have GW288 := sqg HB hg; have GE288 := sqg HB hg; replace HB := sqs HB hb; clear hb hbox hg; obtain ⟨hcz43_0, hcz43_1, hcz43_2, hcz43_3, hcz43_4, hcz43_5, hfz43_0, hfz43_1, hfz43_2, hfz43_3, hfz43_4, hfz43_5⟩ := sqc6 BK288))
  go_ret
  exact sqe HB
 subst c2
 have H1 : (spec_AbsOk.l0 k 0 true l0_1 l0_2 l0_3 a0_4 l0_5) = some r := by rw [if_pos rfl] at H; exact H
 clear H
 have H := H1
 clear H1
 have H' := Aside0.mk H
 clear H
 go_enter Try.func58, Try.ntmps58
 go_wp2_with (first | ((with_reducible refine gate_dst (N := 1) rfl ?_); (try (refine gate_guard (by rfl) ?_; dsimp only)); refine sqx 1 #[.bool true, .slice A0_1 l0_1.length c0_1, .slice A0_2 l0_2.length c0_2, .slice A0_3 l0_3.length c0_3, .int .i64 a0_4, .slice A0_5 l0_5.length c0_5] 78 ?_; intro gb288 hg w3 hbox hb; have BK288 := Aside0.mk hbox; have GW288 := sqg HB hg; have GE288 := sqg HB hg; replace HB := sqs HB hb; clear hb hbox hg; obtain ⟨hcz4_0, hcz4_1, hcz4_2, hcz4_3, hcz4_4, hcz4_5, hfz4_0, hfz4_1, hfz4_2, hfz4_3, hfz4_4, hfz4_5⟩ := sqc6 BK288))
 go_loopg [3] k (fun kq v3 w' => ∃ (x3_1 : Int), v3 = .int .i64 x3_1 ∧ Aside0 (spec_AbsOk.l0 kq x3_1 true l0_1 l0_2 l0_3 a0_4 l0_5 = some r) ∧ Aside0 (kq ≤ k) ∧ Aside0 (w'.heap[gb288]? = some (.cells #[.bool true, (.slice A0_1 l0_1.length c0_1), (.slice A0_2 l0_2.length c0_2), (.slice A0_3 l0_3.length c0_3), .int .i64 a0_4, (.slice A0_5 l0_5.length c0_5)] 78 (0, 0))) ∧ Aside0 (Below w.heap.size w w'))
 case atStart => exact ⟨(0), (by first | rfl | (simp; done) | (simp [*]; done)), H', ⟨Nat.le_refl _⟩, sqk BK288, sqh HB⟩
 case round =>
  clear H'
  obtain ⟨x3_1, rfl, HA, HK1, BK288, HB⟩ := hrel
  cases gk with
  | zero => exact absurd HA.out (by simp [spec_AbsOk.l0])
  | succ k1 =>
   have H := HA.out
   clear HA
   simp only [spec_AbsOk.l0] at H
   replace H := sqj H
   rcases H with ⟨c5, H⟩ | ⟨c5, H⟩
   ·have c5b0 := decide_eq_true c5
    clear c5
    replace H := sqi H
    rcases H with ⟨c6, H⟩ | ⟨c6, H⟩
    ·exact absurd H (by simp)
    have c6b0 := decide_eq_true c6
    clear c6
    replace H := sqbi H
    obtain ⟨t290, A7, H⟩ := H
    replace H : (if t290 = true then (spec_AbsOk.l0 k1 (wrap64 (x3_1 + 1)) true l0_1 l0_2 l0_3 a0_4 l0_5) else (some false)) = some r := H
    rcases sqI (t290 = true) with c8 | c8
    ·replace c8 := Bool.eq_false_iff.mpr c8
     subst c8
     have H1 : (some false) = some r := by rw [if_neg (show ¬ (false = true) by decide)] at H; exact H
     clear H
     have H := H1
     clear H1
     obtain rfl := Option.some.inj H
     obtain ⟨hcz11_0, hcz11_1, hcz11_2, hcz11_3, hcz11_4, hcz11_5, hfz11_0, hfz11_1, hfz11_2, hfz11_3, hfz11_4, hfz11_5⟩ := sqc6 BK288
     have p289 : 0 ≤ (x3_1 : Int) := sqd
     have q289 : x3_1 < (l0_2.length : Int) := sqd
     obtain ⟨ad289, A289_1, c289_1, e289, hx289_0, hx289_1, hx289_2, hx289_3, hx289_4, hx289_5, hl289_1, hi289_1⟩ := at_T132 HR0_2.out x3_1 p289 q289
     cases e289
     replace hx289_0 := sqa HB hx289_0
     replace hx289_1 := sqa HB hx289_1
     replace hx289_2 := sqa HB hx289_2
     replace hx289_3 := sqa HB hx289_3
     replace hx289_4 := sqa HB hx289_4
     replace hx289_5 := sqa HB hx289_5
     have HR289_1 := Aside0.mk hi289_1
     have HC289_1 := Aside0.mk hl289_1
     clear hi289_1 hl289_1
     replace p289 := eq_true p289
     replace q289 := eq_true q289
     go_wp2_with (first | ((with_reducible refine gate_callee (f := 139) rfl ?_); refine sqL (some 48) Try.func139 #[.agg #[.bool ((rd_T132 l0_2 x3_1).f0), .slice A289_1 ((rd_T132 l0_2 x3_1).f1).length c289_1, .int .i64 ((rd_T132 l0_2 x3_1).f2.f0), .int .i64 ((rd_T132 l0_2 x3_1).f2.f1), .int .i64 ((rd_T132 l0_2 x3_1).f2.f2), .int .i64 ((rd_T132 l0_2 x3_1).f2.f3)]] ?_; (with_reducible refine (spec_l12RefOk.calls k1 ((rd_T132 l0_2 x3_1).f0) _ _ ((rd_T132 l0_2 x3_1).f1) ((rd_T132 l0_2 x3_1).f2.f0) ((rd_T132 l0_2 x3_1).f2.f1) ((rd_T132 l0_2 x3_1).f2.f2) ((rd_T132 l0_2 x3_1).f2.f3) false _ ?side1 ?side2 A7.out).mono ?_); (case side1 => exact sqC (Kd.C_below HR289_1.out HB.out)); (case side2 => exact HC289_1.out); rintro e w12 ⟨rfl, hb⟩; refine ⟨_, rfl, ?_⟩; replace BK288 := sqb BK288 hb; replace HB := sqs HB hb; (try clear hb)))
     go_ret
     exact sqe HB
    subst c8
    have H1 : (spec_AbsOk.l0 k1 (wrap64 (x3_1 + 1)) true l0_1 l0_2 l0_3 a0_4 l0_5) = some r := by rw [if_pos rfl] at H; exact H
    clear H
    have H := H1
    clear H1
    have H' := Aside0.mk H
    clear H
    obtain ⟨hcz9_0, hcz9_1, hcz9_2, hcz9_3, hcz9_4, hcz9_5, hfz9_0, hfz9_1, hfz9_2, hfz9_3, hfz9_4, hfz9_5⟩ := sqc6 BK288
    have p289 : 0 ≤ (x3_1 : Int) := sqd
    have q289 : x3_1 < (l0_2.length : Int) := sqd
    obtain ⟨ad289, A289_1, c289_1, e289, hx289_0, hx289_1, hx289_2, hx289_3, hx289_4, hx289_5, hl289_1, hi289_1⟩ := at_T132 HR0_2.out x3_1 p289 q289
    cases e289
    replace hx289_0 := sqa HB hx289_0
    replace hx289_1 := sqa HB hx289_1
    replace hx289_2 := sqa HB hx289_2
    replace hx289_3 := sqa HB hx289_3
    replace hx289_4 := sqa HB hx289_4
    replace hx289_5 := sqa HB hx289_5
    have HR289_1 := Aside0.mk hi289_1
    have HC289_1 := Aside0.mk hl289_1
    clear hi289_1 hl289_1
    replace p289 := eq_true p289
    replace q289 := eq_true q289
    go_wp2_with (first | ((with_reducible refine gate_callee (f := 139) rfl ?_); refine sqL (some 48) Try.func139 #[.agg #[.bool ((rd_T132 l0_2 x3_1).f0), .slice A289_1 ((rd_T132 l0_2 x3_1).f1).length c289_1, .int .i64 ((rd_T132 l0_2 x3_1).f2.f0), .int .i64 ((rd_T132 l0_2 x3_1).f2.f1), .int .i64 ((rd_T132 l0_2 x3_1).f2.f2), .int .i64 ((rd_T132 l0_2 x3_1).f2.f3)]] ?_; (with_reducible refine (spec_l12RefOk.calls k1 ((rd_T132 l0_2 x3_1).f0) _ _ ((rd_T132 l0_2 x3_1).f1) ((rd_T132 l0_2 x3_1).f2.f0) ((rd_T132 l0_2 x3_1).f2.f1) ((rd_T132 l0_2 x3_1).f2.f2) ((rd_T132 l0_2 x3_1).f2.f3) true _ ?side1 ?side2 A7.out).mono ?_); (case side1 => exact sqC (Kd.C_below HR289_1.out HB.out)); (case side2 => exact HC289_1.out); rintro e w10 ⟨rfl, hb⟩; refine ⟨_, rfl, ?_⟩; replace BK288 := sqb BK288 hb; replace HB := sqs HB hb; (try clear hb)))
    go_roundg k1
    case measure => have := HK1.out; omega
    case rel => exact ⟨(wrap64 (x3_1 + 1)), (by first | rfl | (simp; done) | (simp [*]; done)), H', ⟨by have := HK1.out; omega⟩, sqk BK288, sqh HB⟩
   have c5b0 := decide_eq_false c5
   clear c5
   replace H := sqbi H
   obtain ⟨t291, A13, H⟩ := H
   replace H : (if t291 = true then ((spec_l12Vals.f k1 l0_3).bind fun t292 => (if t292 = true then ((spec_GapsOk.f k1 a0_4 l0_5).bind fun t293 => (if t293 = true then (some (a0_4 == (l0_1.length : Int))) else (some false))) else (some false))) else (some false)) = some r := H
   rcases sqI (t291 = true) with c14 | c14
   ·replace c14 := Bool.eq_false_iff.mpr c14
    subst c14
    have H1 : (some false) = some r := by rw [if_neg (show ¬ (false = true) by decide)] at H; exact H
    clear H
    have H := H1
    clear H1
    obtain rfl := Option.some.inj H
    obtain ⟨hcz36_0, hcz36_1, hcz36_2, hcz36_3, hcz36_4, hcz36_5, hfz36_0, hfz36_1, hfz36_2, hfz36_3, hfz36_4, hfz36_5⟩ := sqc6 BK288
    go_wp2_with (first | ((with_reducible refine gate_callee (f := 140) rfl ?_); refine sqL (some 52) Try.func140 #[.slice A0_1 l0_1.length c0_1] ?_; (with_reducible refine (spec_l12Vals.calls k1 _ _ l0_1 false _ ?side1 ?side2 A13.out).mono ?_); (case side1 => exact sqC (Kd.C_below HR0_1.out HB.out)); (case side2 => exact HC0_1.out); rintro e w37 ⟨rfl, hb⟩; refine ⟨_, rfl, ?_⟩; replace BK288 := sqb BK288 hb; replace HB := sqs HB hb; (try clear hb)))
    go_ret
    exact sqe HB
   subst c14
   have H1 : ((spec_l12Vals.f k1 l0_3).bind fun t292 => (if t292 = true then ((spec_GapsOk.f k1 a0_4 l0_5).bind fun t293 => (if t293 = true then (some (a0_4 == (l0_1.length : Int))) else (some false))) else (some false))) = some r := by rw [if_pos rfl] at H; exact H
   clear H
   have H := H1
   clear H1
   replace H := sqbi H
   obtain ⟨t292, A15, H⟩ := H
   replace H : (if t292 = true then ((spec_GapsOk.f k1 a0_4 l0_5).bind fun t293 => (if t293 = true then (some (a0_4 == (l0_1.length : Int))) else (some false))) else (some false)) = some r := H
   rcases sqI (t292 = true) with c16 | c16
   ·replace c16 := Bool.eq_false_iff.mpr c16
    subst c16
    have H1 : (some false) = some r := by rw [if_neg (show ¬ (false = true) by decide)] at H; exact H
    clear H
    have H := H1
    clear H1
    obtain rfl := Option.some.inj H
    obtain ⟨hcz32_0, hcz32_1, hcz32_2, hcz32_3, hcz32_4, hcz32_5, hfz32_0, hfz32_1, hfz32_2, hfz32_3, hfz32_4, hfz32_5⟩ := sqc6 BK288
    go_wp2_with (first | ((with_reducible refine gate_callee (f := 140) rfl ?_); refine sqL (some 52) Try.func140 #[.slice A0_1 l0_1.length c0_1] ?_; (with_reducible refine (spec_l12Vals.calls k1 _ _ l0_1 true _ ?side1 ?side2 A13.out).mono ?_); (case side1 => exact sqC (Kd.C_below HR0_1.out HB.out)); (case side2 => exact HC0_1.out); rintro e w33 ⟨rfl, hb⟩; refine ⟨_, rfl, ?_⟩; replace BK288 := sqb BK288 hb; replace HB := sqs HB hb; (try clear hb); obtain ⟨hcz34_0, hcz34_1, hcz34_2, hcz34_3, hcz34_4, hcz34_5, hfz34_0, hfz34_1, hfz34_2, hfz34_3, hfz34_4, hfz34_5⟩ := sqc6 BK288) | (go_at_call 140; (with_reducible refine (spec_l12Vals.calls k1 _ _ l0_3 false _ ?side1 ?side2 A15.out).mono ?_); (case side1 => exact sqC (Kd.C_below HR0_3.out HB.out)); (case side2 => exact HC0_3.out); rintro e w35 ⟨rfl, hb⟩; replace BK288 := sqb BK288 hb; replace HB := sqs HB hb; (try clear hb)))
    go_ret
    exact sqe HB
   subst c16
   have H1 : ((spec_GapsOk.f k1 a0_4 l0_5).bind fun t293 => (if t293 = true then (some (a0_4 == (l0_1.length : Int))) else (some false))) = some r := by rw [if_pos rfl] at H; exact H
   clear H
   have H := H1
   clear H1
   replace H := sqbi H
   obtain ⟨t293, A17, H⟩ := H
   replace H : (if t293 = true then (some (a0_4 == (l0_1.length : Int))) else (some false)) = some r := H
   rcases sqI (t293 = true) with c18 | c18
   ·replace c18 := Bool.eq_false_iff.mpr c18
    subst c18
    have H1 : (some false) = some r := by rw [if_neg (show ¬ (false = true) by decide)] at H; exact H
    clear H
    have H := H1
    clear H1
    obtain rfl := Option.some.inj H
    obtain ⟨hcz26_0, hcz26_1, hcz26_2, hcz26_3, hcz26_4, hcz26_5, hfz26_0, hfz26_1, hfz26_2, hfz26_3, hfz26_4, hfz26_5⟩ := sqc6 BK288
    go_wp2_with (first | ((with_reducible refine gate_callee (f := 140) rfl ?_); refine sqL (some 52) Try.func140 #[.slice A0_1 l0_1.length c0_1] ?_; (with_reducible refine (spec_l12Vals.calls k1 _ _ l0_1 true _ ?side1 ?side2 A13.out).mono ?_); (case side1 => exact sqC (Kd.C_below HR0_1.out HB.out)); (case side2 => exact HC0_1.out); rintro e w27 ⟨rfl, hb⟩; refine ⟨_, rfl, ?_⟩; replace BK288 := sqb BK288 hb; replace HB := sqs HB hb; (try clear hb); obtain ⟨hcz28_0, hcz28_1, hcz28_2, hcz28_3, hcz28_4, hcz28_5, hfz28_0, hfz28_1, hfz28_2, hfz28_3, hfz28_4, hfz28_5⟩ := sqc6 BK288) | (go_at_call 140; (with_reducible refine (spec_l12Vals.calls k1 _ _ l0_3 true _ ?side1 ?side2 A15.out).mono ?_); (case side1 => exact sqC (Kd.C_below HR0_3.out HB.out)); (case side2 => exact HC0_3.out); rintro e w29 ⟨rfl, hb⟩; replace BK288 := sqb BK288 hb; replace HB := sqs HB hb; (try clear hb); obtain ⟨hcz30_0, hcz30_1, hcz30_2, hcz30_3, hcz30_4, hcz30_5, hfz30_0, hfz30_1, hfz30_2, hfz30_3, hfz30_4, hfz30_5⟩ := sqc6 BK288) | (go_at_call 41; (with_reducible refine (spec_GapsOk.calls k1 a0_4 _ _ l0_5 false _ ?side1 ?side2 A17.out).mono ?_); (case side1 => exact sqC (Kd.C_below HR0_5.out HB.out)); (case side2 => exact HC0_5.out); rintro e w31 ⟨rfl, hb⟩; replace BK288 := sqb BK288 hb; replace HB := sqs HB hb; (try clear hb)))
    go_ret
    exact sqe HB
   subst c18
   have H1 : (some (a0_4 == (l0_1.length : Int))) = some r := by rw [if_pos rfl] at H; exact H
   clear H
   have H := H1
   clear H1
   obtain rfl := Option.some.inj H
   obtain ⟨hcz19_0, hcz19_1, hcz19_2, hcz19_3, hcz19_4, hcz19_5, hfz19_0, hfz19_1, hfz19_2, hfz19_3, hfz19_4, hfz19_5⟩ := sqc6 BK288
   go_wp2_with (first | ((with_reducible refine gate_callee (f := 140) rfl ?_); refine sqL (some 52) Try.func140 #[.slice A0_1 l0_1.length c0_1] ?_; (with_reducible refine (spec_l12Vals.calls k1 _ _ l0_1 true _ ?side1 ?side2 A13.out).mono ?_); (case side1 => exact sqC (Kd.C_below HR0_1.out HB.out)); (case side2 => exact HC0_1.out); rintro e w20 ⟨rfl, hb⟩; refine ⟨_, rfl, ?_⟩; replace BK288 := sqb BK288 hb; replace HB := sqs HB hb; (try clear hb); obtain ⟨hcz21_0, hcz21_1, hcz21_2, hcz21_3, hcz21_4, hcz21_5, hfz21_0, hfz21_1, hfz21_2, hfz21_3, hfz21_4, hfz21_5⟩ := sqc6 BK288) | (go_at_call 140; (with_reducible refine (spec_l12Vals.calls k1 _ _ l0_3 true _ ?side1 ?side2 A15.out).mono ?_); (case side1 => exact sqC (Kd.C_below HR0_3.out HB.out)); (case side2 => exact HC0_3.out); rintro e w22 ⟨rfl, hb⟩; replace BK288 := sqb BK288 hb; replace HB := sqs HB hb; (try clear hb); obtain ⟨hcz23_0, hcz23_1, hcz23_2, hcz23_3, hcz23_4, hcz23_5, hfz23_0, hfz23_1, hfz23_2, hfz23_3, hfz23_4, hfz23_5⟩ := sqc6 BK288) | (go_at_call 41; (with_reducible refine (spec_GapsOk.calls k1 a0_4 _ _ l0_5 true _ ?side1 ?side2 A17.out).mono ?_); (case side1 => exact sqC (Kd.C_below HR0_5.out HB.out)); (case side2 => exact HC0_5.out); rintro e w24 ⟨rfl, hb⟩; replace BK288 := sqb BK288 hb; replace HB := sqs HB hb; (try clear hb); obtain ⟨hcz25_0, hcz25_1, hcz25_2, hcz25_3, hcz25_4, hcz25_5, hfz25_0, hfz25_1, hfz25_2, hfz25_3, hfz25_4, hfz25_5⟩ := sqc6 BK288))
   go_ret
   exact sqe HB

/-! ### spec_l12Like: function 159 -/
set_option maxHeartbeats 8000000 in
set_option maxRecDepth 100000 in
theorem spec_l12Like.calls (a0_0 : Bool) (A0_1 : Option Addr) (c0_1 : Nat) (l0_1 : List (S30)) (A0_2 : Option Addr) (c0_2 : Nat) (l0_2 : List (S132)) (A0_3 : Option Addr) (c0_3 : Nat) (l0_3 : List (S30)) (a0_4 : Int) (A0_5 : Option Addr) (c0_5 : Nat) (l0_5 : List Int) (a1_0 : Bool) (A1_1 : Option Addr) (c1_1 : Nat) (l1_1 : List (S30)) (A1_2 : Option Addr) (c1_2 : Nat) (l1_2 : List (S132)) (A1_3 : Option Addr) (c1_3 : Nat) (l1_3 : List (S30)) (a1_4 : Int) (A1_5 : Option Addr) (c1_5 : Nat) (l1_5 : List Int) (r : Bool) (w : World) (hr0_1 : Kd.C k30 w A0_1 l0_1.length l0_1) (hc0_1 : l0_1.length ≤ c0_1) (hr0_2 : Kd.C k132 w A0_2 l0_2.length l0_2) (hc0_2 : l0_2.length ≤ c0_2) (hr0_3 : Kd.C k30 w A0_3 l0_3.length l0_3) (hc0_3 : l0_3.length ≤ c0_3) (hr0_5 : Kd.C (Kd.int .i64) w A0_5 l0_5.length l0_5) (hc0_5 : l0_5.length ≤ c0_5) (hr1_1 : Kd.C k30 w A1_1 l1_1.length l1_1) (hc1_1 : l1_1.length ≤ c1_1) (hr1_2 : Kd.C k132 w A1_2 l1_2.length l1_2) (hc1_2 : l1_2.length ≤ c1_2) (hr1_3 : Kd.C k30 w A1_3 l1_3.length l1_3) (hc1_3 : l1_3.length ≤ c1_3) (hr1_5 : Kd.C (Kd.int .i64) w A1_5 l1_5.length l1_5) (hc1_5 : l1_5.length ≤ c1_5) (h : spec_l12Like.f a0_0 l0_1 l0_2 l0_3 a0_4 l0_5 a1_0 l1_1 l1_2 l1_3 a1_4 l1_5 = some r) :
  Calls Try.prog 159 #[.agg #[.bool a0_0, .slice A0_1 l0_1.length c0_1, .slice A0_2 l0_2.length c0_2, .slice A0_3 l0_3.length c0_3, .int .i64 a0_4, .slice A0_5 l0_5.length c0_5], .agg #[.bool a1_0, .slice A1_1 l1_1.length c1_1, .slice A1_2 l1_2.length c1_2, .slice A1_3 l1_3.length c1_3, .int .i64 a1_4, .slice A1_5 l1_5.length c1_5]] w fun e w' => e = .returned (.bool r) ∧ Below w.heap.size w w' := by
 have hu78 := Try.underlying78
 have HR0_1 := Aside0.mk hr0_1
 have HC0_1 := Aside0.mk hc0_1
 clear hr0_1 hc0_1
 have HR0_2 := Aside0.mk hr0_2
 have HC0_2 := Aside0.mk hc0_2
 clear hr0_2 hc0_2
 have HR0_3 := Aside0.mk hr0_3
 have HC0_3 := Aside0.mk hc0_3
 clear hr0_3 hc0_3
 have HR0_5 := Aside0.mk hr0_5
 have HC0_5 := Aside0.mk hc0_5
 clear hr0_5 hc0_5
 have HR1_1 := Aside0.mk hr1_1
 have HC1_1 := Aside0.mk hc1_1
 clear hr1_1 hc1_1
 have HR1_2 := Aside0.mk hr1_2
 have HC1_2 := Aside0.mk hc1_2
 clear hr1_2 hc1_2
 have HR1_3 := Aside0.mk hr1_3
 have HC1_3 := Aside0.mk hc1_3
 clear hr1_3 hc1_3
 have HR1_5 := Aside0.mk hr1_5
 have HC1_5 := Aside0.mk hc1_5
 clear hr1_5 hc1_5
 have HB := Aside0.mk (Below.refl w.heap.size w)
 have H : (if (l0_1.length : Int) = (l1_1.length : Int) then (if (l0_2.length : Int) = (l1_2.length : Int) then (some ((l0_3.length : Int) == (l1_3.length : Int))) else (some false)) else (some false)) = some r := h
 clear h
 replace H := sqi H
 rcases H with ⟨c3, H⟩ | ⟨c3, H⟩
 ·have c3b0 : ((l0_1.length : Int) == (l1_1.length : Int)) = false := beq_eq_false_iff_ne.mpr c3
  have c3b1 : ((l0_1.length : Int) != (l1_1.length : Int)) = true := bne_iff_ne.mpr c3
  have c3b2 : (l0_1.length == l1_1.length) = false := by first | simpa using c3 | (simp at c3 ⊢; omega)
  obtain rfl := Option.some.inj H
  go_enter Try.func159, Try.ntmps159
  go_wp2_with (first | ((with_reducible refine gate_dst (N := 2) rfl ?_); (try (refine gate_guard (by rfl) ?_; dsimp only)); refine sqx 2 #[.bool a0_0, .slice A0_1 l0_1.length c0_1, .slice A0_2 l0_2.length c0_2, .slice A0_3 l0_3.length c0_3, .int .i64 a0_4, .slice A0_5 l0_5.length c0_5] 78 ?_; intro gb294 hg w15 hbox hb; have BK294 := Aside0.mk hbox; have GW294 := sqg HB hg; have GE294 := sqg HB hg; replace HB := sqs HB hb; clear hb hbox hg) | ((with_reducible refine gate_dst (N := 3) rfl ?_); (try (refine gate_guard (by rfl) ?_; dsimp only)); refine sqx 3 #[.bool a1_0, .slice A1_1 l1_1.length c1_1, .slice A1_2 l1_2.length c1_2, .slice A1_3 l1_3.length c1_3, .int .i64 a1_4, .slice A1_5 l1_5.length c1_5] 78 ?_; intro gb295 hg w16 hbox hb; have BK295 := Aside0.mk hbox; have GW295 := sqg HB hg; have GE295 := sqg HB hg; have NB294_295 := sqn BK294 hg; have NB295_294 := sqm BK294 hg; replace BK294 := sqb BK294 hb; replace HB := sqs HB hb; clear hb hbox hg; have hnb17 := NB294_295.out; have hnc17 := NB295_294.out; obtain ⟨hcz18_0, hcz18_1, hcz18_2, hcz18_3, hcz18_4, hcz18_5, hfz18_0, hfz18_1, hfz18_2, hfz18_3, hfz18_4, hfz18_5⟩ := sqc6 BK294; obtain ⟨hcz19_0, hcz19_1, hcz19_2, hcz19_3, hcz19_4, hcz19_5, hfz19_0, hfz19_1, hfz19_2, hfz19_3, hfz19_4, hfz19_5⟩ := sqc6 BK295))
  go_ret
  exact sqe HB
 have c3b0 : ((l0_1.length : Int) == (l1_1.length : Int)) = true := beq_iff_eq.mpr c3
 have c3b1 : ((l0_1.length : Int) != (l1_1.length : Int)) = false := bne_eq_false_iff_eq.mpr c3
 have c3b2 : (l0_1.length == l1_1.length) = true := by first | simpa using c3 | (simp at c3 ⊢; omega)
 clear c3
 replace H := sqj H
 rcases H with ⟨c4, H⟩ | ⟨c4, H⟩
 ·have c4b0 : ((l0_2.length : Int) == (l1_2.length : Int)) = true := beq_iff_eq.mpr c4
  have c4b1 : ((l0_2.length : Int) != (l1_2.length : Int)) = false := bne_eq_false_iff_eq.mpr c4
  have c4b2 : (l0_2.length == l1_2.length) = true := by first | simpa using c4 | (simp at c4 ⊢; omega)
  clear c4
  obtain rfl := Option.some.inj H
  go_enter Try.func159, Try.ntmps159
  go_wp2_with (first | ((with_reducible refine gate_dst (N := 2) rfl ?_); (try (refine gate_guard (by rfl) ?_; dsimp only)); refine sqx 2 #[.bool a0_0, .slice A0_1 l0_1.length c0_1, .slice A0_2 l0_2.length c0_2, .slice A0_3 l0_3.length c0_3, .int .i64 a0_4, .slice A0_5 l0_5.length c0_5] 78 ?_; intro gb294 hg w5 hbox hb; have BK294 := Aside0.mk hbox; have GW294 := sqg HB hg; have GE294 := sqg HB hg; replace HB := sqs HB hb; clear hb hbox hg) | ((with_reducible refine gate_dst (N := 3) rfl ?_); (try (refine gate_guard (by rfl) ?_; dsimp only)); refine sqx 3 #[.bool a1_0, .slice A1_1 l1_1.length c1_1, .slice A1_2 l1_2.length c1_2, .slice A1_3 l1_3.length c1_3, .int .i64 a1_4, .slice A1_5 l1_5.length c1_5] 78 ?_; intro gb295 hg w6 hbox hb; have BK295 := Aside0.mk hbox; have GW295 := sqg HB hg; have GE295 := sqg HB hg; have NB294_295 := sqn BK294 hg; have NB295_294 := sqm BK294 hg; replace BK294 := sqb BK294 hb; replace HB := sqs HB hb; clear hb hbox hg; have hnb7 := NB294_295.out; have hnc7 := NB295_294.out; obtain ⟨hcz8_0, hcz8_1, hcz8_2, hcz8_3, hcz8_4, hcz8_5, hfz8_0, hfz8_1, hfz8_2, hfz8_3, hfz8_4, hfz8_5⟩ := sqc6 BK294; obtain ⟨hcz9_0, hcz9_1, hcz9_2, hcz9_3, hcz9_4, hcz9_5, hfz9_0, hfz9_1, hfz9_2, hfz9_3, hfz9_4, hfz9_5⟩ := sqc6 BK295))
  go_ret
  exact sqe HB
 have c4b0 : ((l0_2.length : Int) == (l1_2.length : Int)) = false := beq_eq_false_iff_ne.mpr c4
 have c4b1 : ((l0_2.length : Int) != (l1_2.length : Int)) = true := bne_iff_ne.mpr c4
 have c4b2 : (l0_2.length == l1_2.length) = false := by first | simpa using c4 | (simp at c4 ⊢; omega)
 obtain rfl := Option.some.inj H
 go_enter Try.func159, Try.ntmps159
 go_wp2_with (first | ((with_reducible refine gate_dst (N := 2) rfl ?_); (try (refine gate_guard (by rfl) ?_; dsimp only)); refine sqx 2 #[.bool a0_0, .slice A0_1 l0_1.length c0_1, .slice A0_2 l0_2.length c0_2, .slice A0_3 l0_3.length c0_3, .int .i64 a0_4, .slice A0_5 l0_5.length c0_5] 78 ?_; intro gb294 hg w10 hbox hb; have BK294 := Aside0.mk hbox; have GW294 := sqg HB hg; have GE294 := sqg HB hg; replace HB := sqs HB hb; clear hb hbox hg) | ((with_reducible refine gate_dst (N := 3) rfl ?_); (try (refine gate_guard (by rfl) ?_; dsimp only)); refine sqx 3 #[.bool a1_0, .slice A1_1 l1_1.length c1_1, .slice A1_2 l1_2.length c1_2, .slice A1_3 l1_3.length c1_3, .int .i64 a1_4, .slice A1_5 l1_5.length c1_5] 78 ?_; intro gb295 hg w11 hbox hb; have BK295 := Aside0.mk hbox; have GW295 := sqg HB hg; have GE295 := sqg HB hg; have NB294_295 := sqn BK294 hg; have NB295_294 := sqm BK294 hg; replace BK294 := sqb BK294 hb; replace HB := sqs HB hb; clear hb hbox hg; have hnb12 := NB294_295.out; have hnc12 := NB295_294.out; obtain ⟨hcz13_0, hcz13_1, hcz13_2, hcz13_3, hcz13_4, hcz13_5, hfz13_0, hfz13_1, hfz13_2, hfz13_3, hfz13_4, hfz13_5⟩ := sqc6 BK294; obtain ⟨hcz14_0, hcz14_1, hcz14_2, hcz14_3, hcz14_4, hcz14_5, hfz14_0, hfz14_1, hfz14_2, hfz14_3, hfz14_4, hfz14_5⟩ := sqc6 BK295))
 go_ret
 exact sqe HB

/-! ### spec_l12Place: function 208 -/
set_option maxHeartbeats 8000000 in
set_option maxRecDepth 100000 in
theorem spec_l12Place.calls (k : Nat) (A0 : Option Addr) (c0 : Nat) (l0 : List Int) (a1 : Int) (r : Int) (w : World) (hr0 : Kd.C (Kd.int .i64) w A0 l0.length l0) (hc0 : l0.length ≤ c0) (h : spec_l12Place.f k l0 a1 = some r) :
  Calls Try.prog 208 #[.slice A0 l0.length c0, .int .i64 a1] w fun e w' => e = .returned (.int .i64 r) ∧ Drawn0 w w' := by
 have HR0 := Aside0.mk hr0
 have HC0 := Aside0.mk hc0
 clear hr0 hc0
 have H : (spec_l12Place.l0 k l0 a1 0) = some r := h
 clear h
 have H' := Aside0.mk H
 clear H
 go_enter Try.func208, Try.ntmps208
 go_wp2
 go_loopg [5] k (fun kq v5 w' => ∃ (x5_1 : Int), v5 = .int .i64 x5_1 ∧ Aside0 (spec_l12Place.l0 kq l0 a1 x5_1 = some r) ∧ Aside0 (kq ≤ k) ∧ Drawn0 w w')
 case atStart => exact ⟨(0), (by first | rfl | (simp; done) | (simp [*]; done)), H', ⟨Nat.le_refl _⟩, by repeat (first | exact Drawn0.refl _ | apply Drawn0.step)⟩
 case round =>
  clear H'
  obtain ⟨x5_1, rfl, HA, HK1, ⟨m1, rfl⟩⟩ := hrel
  cases gk with
  | zero => exact absurd HA.out (by simp [spec_l12Place.l0])
  | succ k1 =>
   have H := HA.out
   clear HA
   simp only [spec_l12Place.l0] at H
   replace H := sqi H
   rcases H with ⟨c3, H⟩ | ⟨c3, H⟩
   ·have c3b0 := decide_eq_false c3
    clear c3
    obtain rfl := Option.some.inj H
    go_wp2
    go_ret
    exact ⟨by first | rfl | (simp; done) | (simp [*]; done), by repeat (first | exact Drawn0.refl _ | apply Drawn0.step)⟩
   have c3b0 := decide_eq_true c3
   clear c3
   replace H := sqi H
   rcases H with ⟨c4, H⟩ | ⟨c4, H⟩
   ·exact absurd H (by simp)
   have c4b0 := decide_eq_true c4
   clear c4
   replace H := sqj H
   rcases H with ⟨c5, H⟩ | ⟨c5, H⟩
   ·have c5b0 : ((rd l0 x5_1) == a1) = true := beq_iff_eq.mpr c5
    have c5b1 : ((rd l0 x5_1) != a1) = false := bne_eq_false_iff_eq.mpr c5
    clear c5
    obtain rfl := Option.some.inj H
    have p296 : 0 ≤ (x5_1 : Int) := sqd
    have q296 : x5_1 < (l0.length : Int) := sqd
    obtain ⟨ad296, e296, hx296_0⟩ := Kd.at_int HR0.out x5_1 p296 q296
    cases e296
    replace p296 := eq_true p296
    replace q296 := eq_true q296
    go_wp2
    go_ret
    exact ⟨by first | rfl | (simp; done) | (simp [*]; done), by repeat (first | exact Drawn0.refl _ | apply Drawn0.step)⟩
   have c5b0 : ((rd l0 x5_1) == a1) = false := beq_eq_false_iff_ne.mpr c5
   have c5b1 : ((rd l0 x5_1) != a1) = true := bne_iff_ne.mpr c5
   have H' := Aside0.mk H
   clear H
   have p296 : 0 ≤ (x5_1 : Int) := sqd
   have q296 : x5_1 < (l0.length : Int) := sqd
   obtain ⟨ad296, e296, hx296_0⟩ := Kd.at_int HR0.out x5_1 p296 q296
   cases e296
   replace p296 := eq_true p296
   replace q296 := eq_true q296
   go_wp2
   go_roundg k1
   case measure => have := HK1.out; omega
   case rel => exact ⟨(wrap64 (x5_1 + 1)), (by first | rfl | (simp; done) | (simp [*]; done)), H', ⟨by have := HK1.out; omega⟩, by repeat (first | exact Drawn0.refl _ | apply Drawn0.step)⟩

end Go.Proofs.Ytkekcenlleebeaa.PFnExactAbsIn
