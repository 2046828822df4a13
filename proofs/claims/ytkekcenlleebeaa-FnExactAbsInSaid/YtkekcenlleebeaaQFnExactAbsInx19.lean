/- Functions of the program as plain Lean functions, and that calls of them come to what these tell. Conditions: those in each law. -/
import Derived.Test.YtkekcenlleebeaaSq
import Derived.Test.YtkekcenlleebeaaDFnExactAbsIn
import Derived.Test.YtkekcenlleebeaaQFnExactAbsInx0
import Derived.Test.YtkekcenlleebeaaQFnExactAbsInx18
namespace Go.Proofs.Ytkekcenlleebeaa.PFnExactAbsIn
open Go.RowKit Go.Proofs.Ytkekcenlleebeaa.Sq Go.Proofs.YtkekcenlleebeaaW.PrintWords Go.Proofs.YtkekcenlleebeaaW.PrintLast Go.Proofs.YtkekcenlleebeaaW.PrintMore
attribute [local go_sem] max2_int min2_int max_two min_two max_three min_three max_four min_four   -- for this text's walks alone
set_option linter.unusedVariables false
set_option linter.unusedSimpArgs false

/-! ### spec_GapsIn: function 162 -/
set_option maxHeartbeats 8000000 in
set_option maxRecDepth 100000 in
theorem spec_GapsIn.calls (k : Nat) (a0_0 : Int) (A0_1 : Option Addr) (c0_1 : Nat) (l0_1 : List Int) (a1_0 : Int) (A1_1 : Option Addr) (c1_1 : Nat) (l1_1 : List Int) (r : Bool) (w : World) (hr0_1 : Kd.C (Kd.int .i64) w A0_1 l0_1.length l0_1) (hc0_1 : l0_1.length ≤ c0_1) (hr1_1 : Kd.C (Kd.int .i64) w A1_1 l1_1.length l1_1) (hc1_1 : l1_1.length ≤ c1_1) (h : spec_GapsIn.f k a0_0 l0_1 a1_0 l1_1 = some r) :
  Calls Try.prog 162 #[.agg #[.int .i64 a0_0, .slice A0_1 l0_1.length c0_1], .agg #[.int .i64 a1_0, .slice A1_1 l1_1.length c1_1]] w fun e w' => e = .returned (.bool r) ∧ Below w.heap.size w w' := by
 have hu41 := Try.underlying41
 have HR0_1 := Aside0.mk hr0_1
 have HC0_1 := Aside0.mk hc0_1
 clear hr0_1 hc0_1
 have HR1_1 := Aside0.mk hr1_1
 have HC1_1 := Aside0.mk hc1_1
 clear hr1_1 hc1_1
 have HB := Aside0.mk (Below.refl w.heap.size w)
 have H : ((spec_l11Two.f k a0_0 l0_1 a1_0 l1_1).bind fun t344 => (if t344 = true then (spec_GapsIn.l0 k 0 a0_0 l0_1 a1_0 l1_1) else (some false))) = some r := h
 clear h
 replace H := sqbi H
 obtain ⟨t344, A3, H⟩ := H
 replace H : (if t344 = true then (spec_GapsIn.l0 k 0 a0_0 l0_1 a1_0 l1_1) else (some false)) = some r := H
 rcases sqI (t344 = true) with c4 | c4
 ·replace c4 := Bool.eq_false_iff.mpr c4
  subst c4
  have H1 : (some false) = some r := by rw [if_neg (show ¬ (false = true) by decide)] at H; exact H
  clear H
  have H := H1
  clear H1
  obtain rfl := Option.some.inj H
  go_enter Try.func162, Try.ntmps162
  go_wp2_with (first | ((with_reducible refine gate_dst (N := 2) rfl ?_); refine sqx 2 #[.int .i64 a0_0, .slice A0_1 l0_1.length c0_1] 41 ?_; intro gb342 hg w23 hbox hb; have BK342 := Aside0.mk hbox; have GW342 := sqg HB hg; have GE342 := sqg HB hg; replace HB := sqs HB hb; clear hb hbox hg) | ((with_reducible refine gate_dst (N := 3) rfl ?_); refine sqx 3 #[.int .i64 a1_0, .slice A1_1 l1_1.length c1_1] 41 ?_; intro gb343 hg w24 hbox hb; have BK343 := Aside0.mk hbox; have GW343 := sqg HB hg; have GE343 := sqg HB hg; have NB342_343 := sqn BK342 hg; have NB343_342 := sqm BK342 hg; replace BK342 := sqb BK342 hb; replace HB := sqs HB hb; clear hb hbox hg; have hnb25 := NB342_343.out; have hnc25 := NB343_342.out; obtain ⟨hcz26_0, hcz26_1, hfz26_0, hfz26_1⟩ := sqc2 BK342; obtain ⟨hcz27_0, hcz27_1, hfz27_0, hfz27_1⟩ := sqc2 BK343) | (go_at_call 124; (with_reducible refine (spec_l11Two.calls k a0_0 _ _ l0_1 a1_0 _ _ l1_1 false _ ?side1 ?side2 ?side3 ?side4 A3.out).mono ?_); (case side1 => exact sqC (Kd.C_below HR0_1.out HB.out)); (case side2 => exact HC0_1.out); (case side3 => exact sqC (Kd.C_below HR1_1.out HB.out)); (case side4 => exact HC1_1.out); rintro e w28 ⟨rfl, hb⟩; refine sqM2 BK342 BK343 hb ?_; clear BK342 BK343; intro BK342 BK343; replace HB := sqs HB hb; (try clear hb)))
  repeat (go_quiet (first | ((with_reducible refine gate_dst (N := 2) rfl ?_); refine sqx 2 #[.int .i64 a0_0, .slice A0_1 l0_1.length c0_1] 41 ?_; intro gb342 hg w23 hbox hb; have BK342 := Aside0.mk hbox; have GW342 := sqg HB hg; have GE342 := sqg HB hg; replace HB := sqs HB hb; clear hb hbox hg) | ((with_reducible refine gate_dst (N := 3) rfl ?_); refine sqx 3 #[.int .i64 a1_0, .slice A1_1 l1_1.length c1_1] 41 ?_; intro gb343 hg w24 hbox hb; have BK343 := Aside0.mk hbox; have GW343 := sqg HB hg; have GE343 := sqg HB hg; have NB342_343 := sqn BK342 hg; have NB343_342 := sqm BK342 hg; replace BK342 := sqb BK342 hb; replace HB := sqs HB hb; clear hb hbox hg; have hnb25 := NB342_343.out; have hnc25 := NB343_342.out; obtain ⟨hcz26_0, hcz26_1, hfz26_0, hfz26_1⟩ := sqc2 BK342; obtain ⟨hcz27_0, hcz27_1, hfz27_0, hfz27_1⟩ := sqc2 BK343) | (go_at_call 124; (with_reducible refine (spec_l11Two.calls k a0_0 _ _ l0_1 a1_0 _ _ l1_1 false _ ?side1 ?side2 ?side3 ?side4 A3.out).mono ?_); (case side1 => exact sqC (Kd.C_below HR0_1.out HB.out)); (case side2 => exact HC0_1.out); (case side3 => exact sqC (Kd.C_below HR1_1.out HB.out)); (case side4 => exact HC1_1.out); rintro e w28 ⟨rfl, hb⟩; refine sqM2 BK342 BK343 hb ?_; clear BK342 BK343; intro BK342 BK343; replace HB := sqs HB hb; (try clear hb))); try go_wp2_with (first | ((with_reducible refine gate_dst (N := 2) rfl ?_); refine sqx 2 #[.int .i64 a0_0, .slice A0_1 l0_1.length c0_1] 41 ?_; intro gb342 hg w23 hbox hb; have BK342 := Aside0.mk hbox; have GW342 := sqg HB hg; have GE342 := sqg HB hg; replace HB := sqs HB hb; clear hb hbox hg) | ((with_reducible refine gate_dst (N := 3) rfl ?_); refine sqx 3 #[.int .i64 a1_0, .slice A1_1 l1_1.length c1_1] 41 ?_; intro gb343 hg w24 hbox hb; have BK343 := Aside0.mk hbox; have GW343 := sqg HB hg; have GE343 := sqg HB hg; have NB342_343 := sqn BK342 hg; have NB343_342 := sqm BK342 hg; replace BK342 := sqb BK342 hb; replace HB := sqs HB hb; clear hb hbox hg; have hnb25 := NB342_343.out; have hnc25 := NB343_342.out; obtain ⟨hcz26_0, hcz26_1, hfz26_0, hfz26_1⟩ := sqc2 BK342; obtain ⟨hcz27_0, hcz27_1, hfz27_0, hfz27_1⟩ := sqc2 BK343) | (go_at_call 124; (with_reducible refine (spec_l11Two.calls k a0_0 _ _ l0_1 a1_0 _ _ l1_1 false _ ?side1 ?side2 ?side3 ?side4 A3.out).mono ?_); (case side1 => exact sqC (Kd.C_below HR0_1.out HB.out)); (case side2 => exact HC0_1.out); (case side3 => exact sqC (Kd.C_below HR1_1.out HB.out)); (case side4 => exact HC1_1.out); rintro e w28 ⟨rfl, hb⟩; refine sqM2 BK342 BK343 hb ?_; clear BK342 BK343; intro BK342 BK343; replace HB := sqs HB hb; (try clear hb))))
  go_ret
  exact sqe HB
 subst c4
 have H1 : (spec_GapsIn.l0 k 0 a0_0 l0_1 a1_0 l1_1) = some r := by rw [if_pos rfl] at H; exact H
 clear H
 have H := H1
 clear H1
 have H' := Aside0.mk H
 clear H
 go_enter Try.func162, Try.ntmps162
 go_wp2_with (first | ((with_reducible refine gate_dst (N := 2) rfl ?_); refine sqx 2 #[.int .i64 a0_0, .slice A0_1 l0_1.length c0_1] 41 ?_; intro gb342 hg w5 hbox hb; have BK342 := Aside0.mk hbox; have GW342 := sqg HB hg; have GE342 := sqg HB hg; replace HB := sqs HB hb; clear hb hbox hg) | ((with_reducible refine gate_dst (N := 3) rfl ?_); refine sqx 3 #[.int .i64 a1_0, .slice A1_1 l1_1.length c1_1] 41 ?_; intro gb343 hg w6 hbox hb; have BK343 := Aside0.mk hbox; have GW343 := sqg HB hg; have GE343 := sqg HB hg; have NB342_343 := sqn BK342 hg; have NB343_342 := sqm BK342 hg; replace BK342 := sqb BK342 hb; replace HB := sqs HB hb; clear hb hbox hg; have hnb7 := NB342_343.out; have hnc7 := NB343_342.out; obtain ⟨hcz8_0, hcz8_1, hfz8_0, hfz8_1⟩ := sqc2 BK342; obtain ⟨hcz9_0, hcz9_1, hfz9_0, hfz9_1⟩ := sqc2 BK343) | (go_at_call 124; (with_reducible refine (spec_l11Two.calls k a0_0 _ _ l0_1 a1_0 _ _ l1_1 true _ ?side1 ?side2 ?side3 ?side4 A3.out).mono ?_); (case side1 => exact sqC (Kd.C_below HR0_1.out HB.out)); (case side2 => exact HC0_1.out); (case side3 => exact sqC (Kd.C_below HR1_1.out HB.out)); (case side4 => exact HC1_1.out); rintro e w10 ⟨rfl, hb⟩; refine sqM2 BK342 BK343 hb ?_; clear BK342 BK343; intro BK342 BK343; replace HB := sqs HB hb; (try clear hb)))
 repeat (go_quiet (first | ((with_reducible refine gate_dst (N := 2) rfl ?_); refine sqx 2 #[.int .i64 a0_0, .slice A0_1 l0_1.length c0_1] 41 ?_; intro gb342 hg w5 hbox hb; have BK342 := Aside0.mk hbox; have GW342 := sqg HB hg; have GE342 := sqg HB hg; replace HB := sqs HB hb; clear hb hbox hg) | ((with_reducible refine gate_dst (N := 3) rfl ?_); refine sqx 3 #[.int .i64 a1_0, .slice A1_1 l1_1.length c1_1] 41 ?_; intro gb343 hg w6 hbox hb; have BK343 := Aside0.mk hbox; have GW343 := sqg HB hg; have GE343 := sqg HB hg; have NB342_343 := sqn BK342 hg; have NB343_342 := sqm BK342 hg; replace BK342 := sqb BK342 hb; replace HB := sqs HB hb; clear hb hbox hg; have hnb7 := NB342_343.out; have hnc7 := NB343_342.out; obtain ⟨hcz8_0, hcz8_1, hfz8_0, hfz8_1⟩ := sqc2 BK342; obtain ⟨hcz9_0, hcz9_1, hfz9_0, hfz9_1⟩ := sqc2 BK343) | (go_at_call 124; (with_reducible refine (spec_l11Two.calls k a0_0 _ _ l0_1 a1_0 _ _ l1_1 true _ ?side1 ?side2 ?side3 ?side4 A3.out).mono ?_); (case side1 => exact sqC (Kd.C_below HR0_1.out HB.out)); (case side2 => exact HC0_1.out); (case side3 => exact sqC (Kd.C_below HR1_1.out HB.out)); (case side4 => exact HC1_1.out); rintro e w10 ⟨rfl, hb⟩; refine sqM2 BK342 BK343 hb ?_; clear BK342 BK343; intro BK342 BK343; replace HB := sqs HB hb; (try clear hb))); try go_wp2_with (first | ((with_reducible refine gate_dst (N := 2) rfl ?_); refine sqx 2 #[.int .i64 a0_0, .slice A0_1 l0_1.length c0_1] 41 ?_; intro gb342 hg w5 hbox hb; have BK342 := Aside0.mk hbox; have GW342 := sqg HB hg; have GE342 := sqg HB hg; replace HB := sqs HB hb; clear hb hbox hg) | ((with_reducible refine gate_dst (N := 3) rfl ?_); refine sqx 3 #[.int .i64 a1_0, .slice A1_1 l1_1.length c1_1] 41 ?_; intro gb343 hg w6 hbox hb; have BK343 := Aside0.mk hbox; have GW343 := sqg HB hg; have GE343 := sqg HB hg; have NB342_343 := sqn BK342 hg; have NB343_342 := sqm BK342 hg; replace BK342 := sqb BK342 hb; replace HB := sqs HB hb; clear hb hbox hg; have hnb7 := NB342_343.out; have hnc7 := NB343_342.out; obtain ⟨hcz8_0, hcz8_1, hfz8_0, hfz8_1⟩ := sqc2 BK342; obtain ⟨hcz9_0, hcz9_1, hfz9_0, hfz9_1⟩ := sqc2 BK343) | (go_at_call 124; (with_reducible refine (spec_l11Two.calls k a0_0 _ _ l0_1 a1_0 _ _ l1_1 true _ ?side1 ?side2 ?side3 ?side4 A3.out).mono ?_); (case side1 => exact sqC (Kd.C_below HR0_1.out HB.out)); (case side2 => exact HC0_1.out); (case side3 => exact sqC (Kd.C_below HR1_1.out HB.out)); (case side4 => exact HC1_1.out); rintro e w10 ⟨rfl, hb⟩; refine sqM2 BK342 BK343 hb ?_; clear BK342 BK343; intro BK342 BK343; replace HB := sqs HB hb; (try clear hb))))
 go_loopg [5] k (fun kq v5 w' => ∃ (x5_1 : Int), v5 = .int .i64 x5_1 ∧ Aside0 (spec_GapsIn.l0 kq x5_1 a0_0 l0_1 a1_0 l1_1 = some r) ∧ Aside0 (kq ≤ k) ∧ Aside0 (w'.heap[gb342]? = some (.cells #[.int .i64 a0_0, (.slice A0_1 l0_1.length c0_1)] 41 (0, 0))) ∧ Aside0 (w'.heap[gb343]? = some (.cells #[.int .i64 a1_0, (.slice A1_1 l1_1.length c1_1)] 41 (0, 0))) ∧ Aside0 (Below w.heap.size w w'))
 case atStart => exact ⟨(0), (by first | rfl | (simp; done) | (simp [*]; done)), H', ⟨Nat.le_refl _⟩, sqk BK342, sqk BK343, sqh HB⟩
 case round =>
  clear H'
  obtain ⟨x5_1, rfl, HA, HK1, BK342, BK343, HB⟩ := hrel
  cases gk with
  | zero => exact absurd HA.out (by simp [spec_GapsIn.l0])
  | succ k1 =>
   have H := HA.out
   clear HA
   simp only [spec_GapsIn.l0] at H
   replace H := sqi H
   rcases H with ⟨c11, H⟩ | ⟨c11, H⟩
   ·have c11b0 := decide_eq_false c11
    clear c11
    obtain rfl := Option.some.inj H
    have hnb21 := NB342_343.out
    have hnc21 := NB343_342.out
    obtain ⟨hcz22_0, hcz22_1, hfz22_0, hfz22_1⟩ := sqc2 BK342
    go_wp2
    repeat (go_quiet (fail); try go_wp2)
    go_ret
    exact sqe HB
   have c11b0 := decide_eq_true c11
   clear c11
   replace H := sqi H
   rcases H with ⟨c12, H⟩ | ⟨c12, H⟩
   ·exact absurd H (by simp)
   have c12b0 := decide_eq_true c12
   clear c12
   replace H := sqi H
   rcases H with ⟨c13, H⟩ | ⟨c13, H⟩
   ·exact absurd H (by simp)
   have c13b0 := decide_eq_true c13
   clear c13
   replace H := sqj H
   rcases H with ⟨c14, H⟩ | ⟨c14, H⟩
   ·have c14b0 : decide ((rd l1_1 x5_1) < (rd l0_1 x5_1)) = true := decide_eq_true c14
    clear c14
    obtain rfl := Option.some.inj H
    have hnb15 := NB342_343.out
    have hnc15 := NB343_342.out
    obtain ⟨hcz16_0, hcz16_1, hfz16_0, hfz16_1⟩ := sqc2 BK342
    have p345 : 0 ≤ (x5_1 : Int) := sqd
    have q345 : x5_1 < (l0_1.length : Int) := sqd
    obtain ⟨ad345, e345, hx345_0⟩ := Kd.at_int HR0_1.out x5_1 p345 q345
    cases e345
    replace hx345_0 := sqa HB hx345_0
    replace p345 := eq_true p345
    replace q345 := eq_true q345
    obtain ⟨hcz17_0, hcz17_1, hfz17_0, hfz17_1⟩ := sqc2 BK343
    have p346 : 0 ≤ (x5_1 : Int) := sqd
    have q346 : x5_1 < (l1_1.length : Int) := sqd
    obtain ⟨ad346, e346, hx346_0⟩ := Kd.at_int HR1_1.out x5_1 p346 q346
    cases e346
    replace hx346_0 := sqa HB hx346_0
    replace p346 := eq_true p346
    replace q346 := eq_true q346
    go_wp2
    repeat (go_quiet (fail); try go_wp2)
    go_ret
    exact sqe HB
   have c14b0 : decide ((rd l1_1 x5_1) < (rd l0_1 x5_1)) = false := decide_eq_false c14
   clear c14
   have H' := Aside0.mk H
   clear H
   have hnb18 := NB342_343.out
   have hnc18 := NB343_342.out
   obtain ⟨hcz19_0, hcz19_1, hfz19_0, hfz19_1⟩ := sqc2 BK342
   have p345 : 0 ≤ (x5_1 : Int) := sqd
   have q345 : x5_1 < (l0_1.length : Int) := sqd
   obtain ⟨ad345, e345, hx345_0⟩ := Kd.at_int HR0_1.out x5_1 p345 q345
   cases e345
   replace hx345_0 := sqa HB hx345_0
   replace p345 := eq_true p345
   replace q345 := eq_true q345
   obtain ⟨hcz20_0, hcz20_1, hfz20_0, hfz20_1⟩ := sqc2 BK343
   have p346 : 0 ≤ (x5_1 : Int) := sqd
   have q346 : x5_1 < (l1_1.length : Int) := sqd
   obtain ⟨ad346, e346, hx346_0⟩ := Kd.at_int HR1_1.out x5_1 p346 q346
   cases e346
   replace hx346_0 := sqa HB hx346_0
   replace p346 := eq_true p346
   replace q346 := eq_true q346
   go_wp2
   repeat (go_quiet (fail); try go_wp2)
   go_roundg k1
   case measure => have := HK1.out; omega
   case rel => exact ⟨(wrap64 (x5_1 + 1)), (by first | rfl | (simp; done) | (simp [*]; done)), H', ⟨by have := HK1.out; omega⟩, sqk BK342, sqk BK343, sqh HB⟩

end Go.Proofs.Ytkekcenlleebeaa.PFnExactAbsIn
