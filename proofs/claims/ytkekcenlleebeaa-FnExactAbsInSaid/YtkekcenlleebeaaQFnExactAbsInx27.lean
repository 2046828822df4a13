/- Functions of the program as plain Lean functions, and that calls of them come to what these tell. Conditions: those in each law. -/
import Derived.Test.YtkekcenlleebeaaSq
import Derived.Test.YtkekcenlleebeaaDFnExactAbsIn
import Derived.Test.YtkekcenlleebeaaQFnExactAbsInx0
import Derived.Test.YtkekcenlleebeaaQFnExactAbsInx2
import Derived.Test.YtkekcenlleebeaaQFnExactAbsInx23
import Derived.Test.YtkekcenlleebeaaQFnExactAbsInx24
namespace Go.Proofs.Ytkekcenlleebeaa.PFnExactAbsIn
open Go.RowKit Go.Proofs.Ytkekcenlleebeaa.Sq Go.Proofs.YtkekcenlleebeaaW.PrintWords Go.Proofs.YtkekcenlleebeaaW.PrintLast Go.Proofs.YtkekcenlleebeaaW.PrintMore
attribute [local go_sem] max2_int min2_int max_two min_two max_three min_three max_four min_four   -- for this text's walks alone
set_option linter.unusedVariables false
set_option linter.unusedSimpArgs false

attribute [local go_sem high] eqA26
/-! ### impl_absAlike: function 163 -/
set_option maxHeartbeats 8000000 in
set_option maxRecDepth 100000 in
theorem impl_absAlike.calls (a0_0 : Bool) (A0_1 : Option Addr) (c0_1 : Nat) (l0_1 : List (S30)) (A0_2 : Option Addr) (c0_2 : Nat) (l0_2 : List (S132)) (A0_3 : Option Addr) (c0_3 : Nat) (l0_3 : List (S30)) (a0_4 : Int) (A0_5 : Option Addr) (c0_5 : Nat) (l0_5 : List Int) (a1_0 : Bool) (A1_1 : Option Addr) (c1_1 : Nat) (l1_1 : List (S30)) (A1_2 : Option Addr) (c1_2 : Nat) (l1_2 : List (S132)) (A1_3 : Option Addr) (c1_3 : Nat) (l1_3 : List (S30)) (a1_4 : Int) (A1_5 : Option Addr) (c1_5 : Nat) (l1_5 : List Int) (r : Bool) (w : World) (hr0_1 : Kd.C k30 w A0_1 l0_1.length l0_1) (hc0_1 : l0_1.length ≤ c0_1) (hr0_2 : Kd.C k132 w A0_2 l0_2.length l0_2) (hc0_2 : l0_2.length ≤ c0_2) (hr0_3 : Kd.C k30 w A0_3 l0_3.length l0_3) (hc0_3 : l0_3.length ≤ c0_3) (hr0_5 : Kd.C (Kd.int .i64) w A0_5 l0_5.length l0_5) (hc0_5 : l0_5.length ≤ c0_5) (hr1_1 : Kd.C k30 w A1_1 l1_1.length l1_1) (hc1_1 : l1_1.length ≤ c1_1) (hr1_2 : Kd.C k132 w A1_2 l1_2.length l1_2) (hc1_2 : l1_2.length ≤ c1_2) (hr1_3 : Kd.C k30 w A1_3 l1_3.length l1_3) (hc1_3 : l1_3.length ≤ c1_3) (hr1_5 : Kd.C (Kd.int .i64) w A1_5 l1_5.length l1_5) (hc1_5 : l1_5.length ≤ c1_5) (h : impl_absAlike.f a0_0 l0_1 l0_2 l0_3 a0_4 l0_5 a1_0 l1_1 l1_2 l1_3 a1_4 l1_5 = some r) :
  Calls Try.prog 163 #[.agg #[.bool a0_0, .slice A0_1 l0_1.length c0_1, .slice A0_2 l0_2.length c0_2, .slice A0_3 l0_3.length c0_3, .int .i64 a0_4, .slice A0_5 l0_5.length c0_5], .agg #[.bool a1_0, .slice A1_1 l1_1.length c1_1, .slice A1_2 l1_2.length c1_2, .slice A1_3 l1_3.length c1_3, .int .i64 a1_4, .slice A1_5 l1_5.length c1_5]] w fun e w' => e = .returned (.bool r) ∧ Below w.heap.size w w' := by
 have hu78 := Try.underlying78
 have HR0_1 := Aside0.mk hr0_1
 have HC0_1 := Aside0.mk hc0_1
 clear hr0_1 hc0_1
 have HR0_2 := Aside0.mk hr0_2
 have HC0_2 := Aside0.mk hc0_2
 clear hr0_2 hc0_2
 have HR0_3 := Aside0.mk hr0_3
 have HC0_3 := Aside0.mk hc0_3
 clear hr0_3 hc0_3
 have HR0_5 := Aside0.mk hr0_5
 have HC0_5 := Aside0.mk hc0_5
 clear hr0_5 hc0_5
 have HR1_1 := Aside0.mk hr1_1
 have HC1_1 := Aside0.mk hc1_1
 clear hr1_1 hc1_1
 have HR1_2 := Aside0.mk hr1_2
 have HC1_2 := Aside0.mk hc1_2
 clear hr1_2 hc1_2
 have HR1_3 := Aside0.mk hr1_3
 have HC1_3 := Aside0.mk hc1_3
 clear hr1_3 hc1_3
 have HR1_5 := Aside0.mk hr1_5
 have HC1_5 := Aside0.mk hc1_5
 clear hr1_5 hc1_5
 have HB := Aside0.mk (Below.refl w.heap.size w)
 have H : (if (l0_1.length : Int) = (l1_1.length : Int) then (if (l0_2.length : Int) = (l1_2.length : Int) then (some ((l0_3.length : Int) == (l1_3.length : Int))) else (some false)) else (some false)) = some r := h
 clear h
 replace H := sqi H
 rcases H with ⟨c3, H⟩ | ⟨c3, H⟩
 ·have c3b0 : ((l0_1.length : Int) == (l1_1.length : Int)) = false := beq_eq_false_iff_ne.mpr c3
  have c3b1 : ((l0_1.length : Int) != (l1_1.length : Int)) = true := bne_iff_ne.mpr c3
  have c3b2 : (l0_1.length == l1_1.length) = false := by first | simpa using c3 | (simp at c3 ⊢; omega)
  obtain rfl := Option.some.inj H
  go_enter Try.func163, Try.ntmps163
  go_wp2_with (first | ((with_reducible refine gate_dst (N := 2) rfl ?_); (try (refine gate_guard (by rfl) ?_; dsimp only)); refine sqx 2 #[.bool a0_0, .slice A0_1 l0_1.length c0_1, .slice A0_2 l0_2.length c0_2, .slice A0_3 l0_3.length c0_3, .int .i64 a0_4, .slice A0_5 l0_5.length c0_5] 78 ?_; intro gb446 hg w15 hbox hb; have BK446 := Aside0.mk hbox; have GW446 := sqg HB hg; have GE446 := sqg HB hg; replace HB := sqs HB hb; clear hb hbox hg) | ((with_reducible refine gate_dst (N := 3) rfl ?_); (try (refine gate_guard (by rfl) ?_; dsimp only)); refine sqx 3 #[.bool a1_0, .slice A1_1 l1_1.length c1_1, .slice A1_2 l1_2.length c1_2, .slice A1_3 l1_3.length c1_3, .int .i64 a1_4, .slice A1_5 l1_5.length c1_5] 78 ?_; intro gb447 hg w16 hbox hb; have BK447 := Aside0.mk hbox; have GW447 := sqg HB hg; have GE447 := sqg HB hg; have NB446_447 := sqn BK446 hg; have NB447_446 := sqm BK446 hg; replace BK446 := sqb BK446 hb; replace HB := sqs HB hb; clear hb hbox hg; have hnb17 := NB446_447.out; have hnc17 := NB447_446.out; obtain ⟨hcz18_0, hcz18_1, hcz18_2, hcz18_3, hcz18_4, hcz18_5, hfz18_0, hfz18_1, hfz18_2, hfz18_3, hfz18_4, hfz18_5⟩ := sqc6 BK446; obtain ⟨hcz19_0, hcz19_1, hcz19_2, hcz19_3, hcz19_4, hcz19_5, hfz19_0, hfz19_1, hfz19_2, hfz19_3, hfz19_4, hfz19_5⟩ := sqc6 BK447))
  go_ret
  exact sqe HB
 have c3b0 : ((l0_1.length : Int) == (l1_1.length : Int)) = true := beq_iff_eq.mpr c3
 have c3b1 : ((l0_1.length : Int) != (l1_1.length : Int)) = false := bne_eq_false_iff_eq.mpr c3
 have c3b2 : (l0_1.length == l1_1.length) = true := by first | simpa using c3 | (simp at c3 ⊢; omega)
 clear c3
 replace H := sqj H
 rcases H with ⟨c4, H⟩ | ⟨c4, H⟩
 ·have c4b0 : ((l0_2.length : Int) == (l1_2.length : Int)) = true := beq_iff_eq.mpr c4
  have c4b1 : ((l0_2.length : Int) != (l1_2.length : Int)) = false := bne_eq_false_iff_eq.mpr c4
  have c4b2 : (l0_2.length == l1_2.length) = true := by first | simpa using c4 | (simp at c4 ⊢; omega)
  clear c4
  obtain rfl := Option.some.inj H
  go_enter Try.func163, Try.ntmps163
  go_wp2_with (first | ((with_reducible refine gate_dst (N := 2) rfl ?_); (try (refine gate_guard (by rfl) ?_; dsimp only)); refine sqx 2 #[.bool a0_0, .slice A0_1 l0_1.length c0_1, .slice A0_2 l0_2.length c0_2, .slice A0_3 l0_3.length c0_3, .int .i64 a0_4, .slice A0_5 l0_5.length c0_5] 78 ?_; intro gb446 hg w5 hbox hb; have BK446 := Aside0.mk hbox; have GW446 := sqg HB hg; have GE446 := sqg HB hg; replace HB := sqs HB hb; clear hb hbox hg) | ((with_reducible refine gate_dst (N := 3) rfl ?_); (try (refine gate_guard (by rfl) ?_; dsimp only)); refine sqx 3 #[.bool a1_0, .slice A1_1 l1_1.length c1_1, .slice A1_2 l1_2.length c1_2, .slice A1_3 l1_3.length c1_3, .int .i64 a1_4, .slice A1_5 l1_5.length c1_5] 78 ?_; intro gb447 hg w6 hbox hb; have BK447 := Aside0.mk hbox; have GW447 := sqg HB hg; have GE447 := sqg HB hg; have NB446_447 := sqn BK446 hg; have NB447_446 := sqm BK446 hg; replace BK446 := sqb BK446 hb; replace HB := sqs HB hb; clear hb hbox hg; have hnb7 := NB446_447.out; have hnc7 := NB447_446.out; obtain ⟨hcz8_0, hcz8_1, hcz8_2, hcz8_3, hcz8_4, hcz8_5, hfz8_0, hfz8_1, hfz8_2, hfz8_3, hfz8_4, hfz8_5⟩ := sqc6 BK446; obtain ⟨hcz9_0, hcz9_1, hcz9_2, hcz9_3, hcz9_4, hcz9_5, hfz9_0, hfz9_1, hfz9_2, hfz9_3, hfz9_4, hfz9_5⟩ := sqc6 BK447))
  go_ret
  exact sqe HB
 have c4b0 : ((l0_2.length : Int) == (l1_2.length : Int)) = false := beq_eq_false_iff_ne.mpr c4
 have c4b1 : ((l0_2.length : Int) != (l1_2.length : Int)) = true := bne_iff_ne.mpr c4
 have c4b2 : (l0_2.length == l1_2.length) = false := by first | simpa using c4 | (simp at c4 ⊢; omega)
 obtain rfl := Option.some.inj H
 go_enter Try.func163, Try.ntmps163
 go_wp2_with (first | ((with_reducible refine gate_dst (N := 2) rfl ?_); (try (refine gate_guard (by rfl) ?_; dsimp only)); refine sqx 2 #[.bool a0_0, .slice A0_1 l0_1.length c0_1, .slice A0_2 l0_2.length c0_2, .slice A0_3 l0_3.length c0_3, .int .i64 a0_4, .slice A0_5 l0_5.length c0_5] 78 ?_; intro gb446 hg w10 hbox hb; have BK446 := Aside0.mk hbox; have GW446 := sqg HB hg; have GE446 := sqg HB hg; replace HB := sqs HB hb; clear hb hbox hg) | ((with_reducible refine gate_dst (N := 3) rfl ?_); (try (refine gate_guard (by rfl) ?_; dsimp only)); refine sqx 3 #[.bool a1_0, .slice A1_1 l1_1.length c1_1, .slice A1_2 l1_2.length c1_2, .slice A1_3 l1_3.length c1_3, .int .i64 a1_4, .slice A1_5 l1_5.length c1_5] 78 ?_; intro gb447 hg w11 hbox hb; have BK447 := Aside0.mk hbox; have GW447 := sqg HB hg; have GE447 := sqg HB hg; have NB446_447 := sqn BK446 hg; have NB447_446 := sqm BK446 hg; replace BK446 := sqb BK446 hb; replace HB := sqs HB hb; clear hb hbox hg; have hnb12 := NB446_447.out; have hnc12 := NB447_446.out; obtain ⟨hcz13_0, hcz13_1, hcz13_2, hcz13_3, hcz13_4, hcz13_5, hfz13_0, hfz13_1, hfz13_2, hfz13_3, hfz13_4, hfz13_5⟩ := sqc6 BK446; obtain ⟨hcz14_0, hcz14_1, hcz14_2, hcz14_3, hcz14_4, hcz14_5, hfz14_0, hfz14_1, hfz14_2, hfz14_3, hfz14_4, hfz14_5⟩ := sqc6 BK447))
 go_ret
 exact sqe HB

/-! ### impl_RangeIn: function 46 -/
set_option maxHeartbeats 8000000 in
set_option maxRecDepth 100000 in
theorem impl_RangeIn.calls (a0_0 : Int) (a0_1 : Int) (a1_0 : Int) (a1_1 : Int) (r : Bool) (w : World) (h : impl_RangeIn.f a0_0 a0_1 a1_0 a1_1 = some r) :
  Calls Try.prog 46 #[.agg #[.int .i64 a0_0, .int .i64 a0_1], .agg #[.int .i64 a1_0, .int .i64 a1_1]] w fun e w' => e = .returned (.bool r) ∧ Below w.heap.size w w' := by
 have hu24 := Try.underlying24
 have HB := Aside0.mk (Below.refl w.heap.size w)
 have H : ((impl_RangeOk.f a0_0 a0_1).bind fun t450 => (if t450 = true then ((impl_RangeOk.f a1_0 a1_1).bind fun t451 => (if t451 = true then ((impl_Range_empty.f a0_0 a0_1).bind fun t452 => (if t452 = true then (some true) else (if a1_0 ≤ a0_0 then (some (decide (a0_1 ≤ a1_1))) else (some false)))) else (some false))) else (some false))) = some r := h
 clear h
 replace H := sqbi H
 obtain ⟨t450, A3, H⟩ := H
 replace H : (if t450 = true then ((impl_RangeOk.f a1_0 a1_1).bind fun t451 => (if t451 = true then ((impl_Range_empty.f a0_0 a0_1).bind fun t452 => (if t452 = true then (some true) else (if a1_0 ≤ a0_0 then (some (decide (a0_1 ≤ a1_1))) else (some false)))) else (some false))) else (some false)) = some r := H
 rcases sqI (t450 = true) with c4 | c4
 ·replace c4 := Bool.eq_false_iff.mpr c4
  subst c4
  have H1 : (some false) = some r := by rw [if_neg (show ¬ (false = true) by decide)] at H; exact H
  clear H
  have H := H1
  clear H1
  obtain rfl := Option.some.inj H
  go_enter Try.func46, Try.ntmps46
  go_wp2_with (first | ((with_reducible refine gate_dst (N := 2) rfl ?_); refine sqx 2 #[.int .i64 a0_0, .int .i64 a0_1] 24 ?_; intro gb448 hg w48 hbox hb; have BK448 := Aside0.mk hbox; have GW448 := sqg HB hg; have GE448 := sqg HB hg; replace HB := sqs HB hb; clear hb hbox hg) | ((with_reducible refine gate_dst (N := 3) rfl ?_); refine sqx 3 #[.int .i64 a1_0, .int .i64 a1_1] 24 ?_; intro gb449 hg w49 hbox hb; have BK449 := Aside0.mk hbox; have GW449 := sqg HB hg; have GE449 := sqg HB hg; have NB448_449 := sqn BK448 hg; have NB449_448 := sqm BK448 hg; replace BK448 := sqb BK448 hb; replace HB := sqs HB hb; clear hb hbox hg; have hnb50 := NB448_449.out; have hnc50 := NB449_448.out; obtain ⟨hcz51_0, hcz51_1, hfz51_0, hfz51_1⟩ := sqc2 BK448) | ((with_reducible refine gate_callee (f := 76) rfl ?_); refine sqL (some 6) Try.func76 #[.agg #[.int .i64 a0_0, .int .i64 a0_1]] ?_; (with_reducible refine (impl_RangeOk.calls a0_0 a0_1 false _ A3.out).mono ?_); rintro e w52 ⟨rfl, hb⟩; refine ⟨_, rfl, ?_⟩; refine sqM2 BK448 BK449 hb ?_; clear BK448 BK449; intro BK448 BK449; replace HB := sqs HB hb; (try clear hb)))
  go_ret
  exact sqe HB
 subst c4
 have H1 : ((impl_RangeOk.f a1_0 a1_1).bind fun t451 => (if t451 = true then ((impl_Range_empty.f a0_0 a0_1).bind fun t452 => (if t452 = true then (some true) else (if a1_0 ≤ a0_0 then (some (decide (a0_1 ≤ a1_1))) else (some false)))) else (some false))) = some r := by rw [if_pos rfl] at H; exact H
 clear H
 have H := H1
 clear H1
 replace H := sqbi H
 obtain ⟨t451, A5, H⟩ := H
 replace H : (if t451 = true then ((impl_Range_empty.f a0_0 a0_1).bind fun t452 => (if t452 = true then (some true) else (if a1_0 ≤ a0_0 then (some (decide (a0_1 ≤ a1_1))) else (some false)))) else (some false)) = some r := H
 rcases sqI (t451 = true) with c6 | c6
 ·replace c6 := Bool.eq_false_iff.mpr c6
  subst c6
  have H1 : (some false) = some r := by rw [if_neg (show ¬ (false = true) by decide)] at H; exact H
  clear H
  have H := H1
  clear H1
  obtain rfl := Option.some.inj H
  go_enter Try.func46, Try.ntmps46
  go_wp2_with (first | ((with_reducible refine gate_dst (N := 2) rfl ?_); refine sqx 2 #[.int .i64 a0_0, .int .i64 a0_1] 24 ?_; intro gb448 hg w41 hbox hb; have BK448 := Aside0.mk hbox; have GW448 := sqg HB hg; have GE448 := sqg HB hg; replace HB := sqs HB hb; clear hb hbox hg) | ((with_reducible refine gate_dst (N := 3) rfl ?_); refine sqx 3 #[.int .i64 a1_0, .int .i64 a1_1] 24 ?_; intro gb449 hg w42 hbox hb; have BK449 := Aside0.mk hbox; have GW449 := sqg HB hg; have GE449 := sqg HB hg; have NB448_449 := sqn BK448 hg; have NB449_448 := sqm BK448 hg; replace BK448 := sqb BK448 hb; replace HB := sqs HB hb; clear hb hbox hg; have hnb43 := NB448_449.out; have hnc43 := NB449_448.out; obtain ⟨hcz44_0, hcz44_1, hfz44_0, hfz44_1⟩ := sqc2 BK448) | ((with_reducible refine gate_callee (f := 76) rfl ?_); refine sqL (some 6) Try.func76 #[.agg #[.int .i64 a0_0, .int .i64 a0_1]] ?_; (with_reducible refine (impl_RangeOk.calls a0_0 a0_1 true _ A3.out).mono ?_); rintro e w45 ⟨rfl, hb⟩; refine ⟨_, rfl, ?_⟩; refine sqM2 BK448 BK449 hb ?_; clear BK448 BK449; intro BK448 BK449; replace HB := sqs HB hb; (try clear hb); obtain ⟨hcz46_0, hcz46_1, hfz46_0, hfz46_1⟩ := sqc2 BK449) | (go_at_call 76; (with_reducible refine (impl_RangeOk.calls a1_0 a1_1 false _ A5.out).mono ?_); rintro e w47 ⟨rfl, hb⟩; refine sqM2 BK448 BK449 hb ?_; clear BK448 BK449; intro BK448 BK449; replace HB := sqs HB hb; (try clear hb)))
  go_ret
  exact sqe HB
 subst c6
 have H1 : ((impl_Range_empty.f a0_0 a0_1).bind fun t452 => (if t452 = true then (some true) else (if a1_0 ≤ a0_0 then (some (decide (a0_1 ≤ a1_1))) else (some false)))) = some r := by rw [if_pos rfl] at H; exact H
 clear H
 have H := H1
 clear H1
 replace H := sqbi H
 obtain ⟨t452, A7, H⟩ := H
 replace H : (if t452 = true then (some true) else (if a1_0 ≤ a0_0 then (some (decide (a0_1 ≤ a1_1))) else (some false))) = some r := H
 by_cases c8 : t452 = true
 ·subst c8
  have H1 : (some true) = some r := by rw [if_pos rfl] at H; exact H
  clear H
  have H := H1
  clear H1
  obtain rfl := Option.some.inj H
  go_enter Try.func46, Try.ntmps46
  go_wp2_with (first | ((with_reducible refine gate_dst (N := 2) rfl ?_); refine sqx 2 #[.int .i64 a0_0, .int .i64 a0_1] 24 ?_; intro gb448 hg w9 hbox hb; have BK448 := Aside0.mk hbox; have GW448 := sqg HB hg; have GE448 := sqg HB hg; replace HB := sqs HB hb; clear hb hbox hg) | ((with_reducible refine gate_dst (N := 3) rfl ?_); refine sqx 3 #[.int .i64 a1_0, .int .i64 a1_1] 24 ?_; intro gb449 hg w10 hbox hb; have BK449 := Aside0.mk hbox; have GW449 := sqg HB hg; have GE449 := sqg HB hg; have NB448_449 := sqn BK448 hg; have NB449_448 := sqm BK448 hg; replace BK448 := sqb BK448 hb; replace HB := sqs HB hb; clear hb hbox hg; have hnb11 := NB448_449.out; have hnc11 := NB449_448.out; obtain ⟨hcz12_0, hcz12_1, hfz12_0, hfz12_1⟩ := sqc2 BK448) | ((with_reducible refine gate_callee (f := 76) rfl ?_); refine sqL (some 6) Try.func76 #[.agg #[.int .i64 a0_0, .int .i64 a0_1]] ?_; (with_reducible refine (impl_RangeOk.calls a0_0 a0_1 true _ A3.out).mono ?_); rintro e w13 ⟨rfl, hb⟩; refine ⟨_, rfl, ?_⟩; refine sqM2 BK448 BK449 hb ?_; clear BK448 BK449; intro BK448 BK449; replace HB := sqs HB hb; (try clear hb); obtain ⟨hcz14_0, hcz14_1, hfz14_0, hfz14_1⟩ := sqc2 BK449) | (go_at_call 76; (with_reducible refine (impl_RangeOk.calls a1_0 a1_1 true _ A5.out).mono ?_); rintro e w15 ⟨rfl, hb⟩; refine sqM2 BK448 BK449 hb ?_; clear BK448 BK449; intro BK448 BK449; replace HB := sqs HB hb; (try clear hb); obtain ⟨hcz16_0, hcz16_1, hfz16_0, hfz16_1⟩ := sqc2 BK448) | ((with_reducible refine gate_callee (f := 95) rfl ?_); refine sqL (some 14) Try.func95 #[.agg #[.int .i64 a0_0, .int .i64 a0_1]] ?_; (with_reducible refine (impl_Range_empty.calls a0_0 a0_1 true _ A7.out).mono ?_); rintro e w17 ⟨rfl, hb⟩; refine ⟨_, rfl, ?_⟩; refine sqM2 BK448 BK449 hb ?_; clear BK448 BK449; intro BK448 BK449; replace HB := sqs HB hb; (try clear hb)))
  go_ret
  exact sqe HB
 replace c8 := Bool.eq_false_iff.mpr c8
 subst c8
 have H1 : (if a1_0 ≤ a0_0 then (some (decide (a0_1 ≤ a1_1))) else (some false)) = some r := by rw [if_neg (show ¬ (false = true) by decide)] at H; exact H
 clear H
 have H := H1
 clear H1
 replace H := sqj H
 rcases H with ⟨c18, H⟩ | ⟨c18, H⟩
 ·have c18b0 := decide_eq_true c18
  clear c18
  obtain rfl := Option.some.inj H
  go_enter Try.func46, Try.ntmps46
  go_wp2_with (first | ((with_reducible refine gate_dst (N := 2) rfl ?_); refine sqx 2 #[.int .i64 a0_0, .int .i64 a0_1] 24 ?_; intro gb448 hg w19 hbox hb; have BK448 := Aside0.mk hbox; have GW448 := sqg HB hg; have GE448 := sqg HB hg; replace HB := sqs HB hb; clear hb hbox hg) | ((with_reducible refine gate_dst (N := 3) rfl ?_); refine sqx 3 #[.int .i64 a1_0, .int .i64 a1_1] 24 ?_; intro gb449 hg w20 hbox hb; have BK449 := Aside0.mk hbox; have GW449 := sqg HB hg; have GE449 := sqg HB hg; have NB448_449 := sqn BK448 hg; have NB449_448 := sqm BK448 hg; replace BK448 := sqb BK448 hb; replace HB := sqs HB hb; clear hb hbox hg; have hnb21 := NB448_449.out; have hnc21 := NB449_448.out; obtain ⟨hcz22_0, hcz22_1, hfz22_0, hfz22_1⟩ := sqc2 BK448) | ((with_reducible refine gate_callee (f := 76) rfl ?_); refine sqL (some 6) Try.func76 #[.agg #[.int .i64 a0_0, .int .i64 a0_1]] ?_; (with_reducible refine (impl_RangeOk.calls a0_0 a0_1 true _ A3.out).mono ?_); rintro e w23 ⟨rfl, hb⟩; refine ⟨_, rfl, ?_⟩; refine sqM2 BK448 BK449 hb ?_; clear BK448 BK449; intro BK448 BK449; replace HB := sqs HB hb; (try clear hb); obtain ⟨hcz24_0, hcz24_1, hfz24_0, hfz24_1⟩ := sqc2 BK449) | (go_at_call 76; (with_reducible refine (impl_RangeOk.calls a1_0 a1_1 true _ A5.out).mono ?_); rintro e w25 ⟨rfl, hb⟩; refine sqM2 BK448 BK449 hb ?_; clear BK448 BK449; intro BK448 BK449; replace HB := sqs HB hb; (try clear hb); obtain ⟨hcz26_0, hcz26_1, hfz26_0, hfz26_1⟩ := sqc2 BK448) | ((with_reducible refine gate_callee (f := 95) rfl ?_); refine sqL (some 14) Try.func95 #[.agg #[.int .i64 a0_0, .int .i64 a0_1]] ?_; (with_reducible refine (impl_Range_empty.calls a0_0 a0_1 false _ A7.out).mono ?_); rintro e w27 ⟨rfl, hb⟩; refine ⟨_, rfl, ?_⟩; refine sqM2 BK448 BK449 hb ?_; clear BK448 BK449; intro BK448 BK449; replace HB := sqs HB hb; (try clear hb); obtain ⟨hcz28_0, hcz28_1, hfz28_0, hfz28_1⟩ := sqc2 BK449; obtain ⟨hcz29_0, hcz29_1, hfz29_0, hfz29_1⟩ := sqc2 BK448))
  go_ret
  exact sqe HB
 have c18b0 := decide_eq_false c18
 clear c18
 obtain rfl := Option.some.inj H
 go_enter Try.func46, Try.ntmps46
 go_wp2_with (first | ((with_reducible refine gate_dst (N := 2) rfl ?_); refine sqx 2 #[.int .i64 a0_0, .int .i64 a0_1] 24 ?_; intro gb448 hg w30 hbox hb; have BK448 := Aside0.mk hbox; have GW448 := sqg HB hg; have GE448 := sqg HB hg; replace HB := sqs HB hb; clear hb hbox hg) | ((with_reducible refine gate_dst (N := 3) rfl ?_); refine sqx 3 #[.int .i64 a1_0, .int .i64 a1_1] 24 ?_; intro gb449 hg w31 hbox hb; have BK449 := Aside0.mk hbox; have GW449 := sqg HB hg; have GE449 := sqg HB hg; have NB448_449 := sqn BK448 hg; have NB449_448 := sqm BK448 hg; replace BK448 := sqb BK448 hb; replace HB := sqs HB hb; clear hb hbox hg; have hnb32 := NB448_449.out; have hnc32 := NB449_448.out; obtain ⟨hcz33_0, hcz33_1, hfz33_0, hfz33_1⟩ := sqc2 BK448) | ((with_reducible refine gate_callee (f := 76) rfl ?_); refine sqL (some 6) Try.func76 #[.agg #[.int .i64 a0_0, .int .i64 a0_1]] ?_; (with_reducible refine (impl_RangeOk.calls a0_0 a0_1 true _ A3.out).mono ?_); rintro e w34 ⟨rfl, hb⟩; refine ⟨_, rfl, ?_⟩; refine sqM2 BK448 BK449 hb ?_; clear BK448 BK449; intro BK448 BK449; replace HB := sqs HB hb; (try clear hb); obtain ⟨hcz35_0, hcz35_1, hfz35_0, hfz35_1⟩ := sqc2 BK449) | (go_at_call 76; (with_reducible refine (impl_RangeOk.calls a1_0 a1_1 true _ A5.out).mono ?_); rintro e w36 ⟨rfl, hb⟩; refine sqM2 BK448 BK449 hb ?_; clear BK448 BK449; intro BK448 BK449; replace HB := sqs HB hb; (try clear hb); obtain ⟨hcz37_0, hcz37_1, hfz37_0, hfz37_1⟩ := sqc2 BK448) | ((with_reducible refine gate_callee (f := 95) rfl ?_); refine sqL (some 14) Try.func95 #[.agg #[.int .i64 a0_0, .int .i64 a0_1]] ?_; (with_reducible refine (impl_Range_empty.calls a0_0 a0_1 false _ A7.out).mono ?_); rintro e w38 ⟨rfl, hb⟩; refine ⟨_, rfl, ?_⟩; refine sqM2 BK448 BK449 hb ?_; clear BK448 BK449; intro BK448 BK449; replace HB := sqs HB hb; (try clear hb); obtain ⟨hcz39_0, hcz39_1, hfz39_0, hfz39_1⟩ := sqc2 BK449; obtain ⟨hcz40_0, hcz40_1, hfz40_0, hfz40_1⟩ := sqc2 BK448))
 go_ret
 exact sqe HB

/-! ### impl_RestIn: function 182 -/
set_option maxHeartbeats 8000000 in
set_option maxRecDepth 100000 in
theorem impl_RestIn.calls (k : Nat) (a0_0 : Int) (a0_1 : Int) (a1_0 : Int) (a1_1 : Int) (r : Bool) (w : World) (h : impl_RestIn.f k a0_0 a0_1 a1_0 a1_1 = some r) :
  Calls Try.prog 182 #[.agg #[.int .i64 a0_0, .int .i64 a0_1], .agg #[.int .i64 a1_0, .int .i64 a1_1]] w fun e w' => e = .returned (.bool r) ∧ Below w.heap.size w w' := by
 have hu26 := Try.underlying26
 have HB := Aside0.mk (Below.refl w.heap.size w)
 have H : ((impl_RestOk.f a0_0 a0_1).bind fun t455 => (if t455 = true then ((impl_RestOk.f a1_0 a1_1).bind fun t456 => (impl_RestIn.j0 k (!t456) a0_0 a0_1 a1_0 a1_1)) else (impl_RestIn.j0 k true a0_0 a0_1 a1_0 a1_1))) = some r := h
 clear h
 have HC3 := Aside0.mk H
 clear H
 go_enter Try.func182, Try.ntmps182
 go_upto_region 1 with (first | ((with_reducible refine gate_dst (N := 2) rfl ?_); refine sqx 2 #[.int .i64 a0_0, .int .i64 a0_1] 26 ?_; intro gb453 hg w4 hbox hb; have BK453 := Aside0.mk hbox; have GW453 := sqg HB hg; have GE453 := sqg HB hg; replace HB := sqs HB hb; clear hb hbox hg) | ((with_reducible refine gate_dst (N := 3) rfl ?_); refine sqx 3 #[.int .i64 a1_0, .int .i64 a1_1] 26 ?_; intro gb454 hg w5 hbox hb; have BK454 := Aside0.mk hbox; have GW454 := sqg HB hg; have GE454 := sqg HB hg; have NB453_454 := sqn BK453 hg; have NB454_453 := sqm BK453 hg; replace BK453 := sqb BK453 hb; replace HB := sqs HB hb; clear hb hbox hg))
 repeat (go_quiet (first | ((with_reducible refine gate_dst (N := 2) rfl ?_); refine sqx 2 #[.int .i64 a0_0, .int .i64 a0_1] 26 ?_; intro gb453 hg w4 hbox hb; have BK453 := Aside0.mk hbox; have GW453 := sqg HB hg; have GE453 := sqg HB hg; replace HB := sqs HB hb; clear hb hbox hg) | ((with_reducible refine gate_dst (N := 3) rfl ?_); refine sqx 3 #[.int .i64 a1_0, .int .i64 a1_1] 26 ?_; intro gb454 hg w5 hbox hb; have BK454 := Aside0.mk hbox; have GW454 := sqg HB hg; have GE454 := sqg HB hg; have NB453_454 := sqn BK453 hg; have NB454_453 := sqm BK453 hg; replace BK453 := sqb BK453 hb; replace HB := sqs HB hb; clear hb hbox hg)); go_upto_region 1 with (first | ((with_reducible refine gate_dst (N := 2) rfl ?_); refine sqx 2 #[.int .i64 a0_0, .int .i64 a0_1] 26 ?_; intro gb453 hg w4 hbox hb; have BK453 := Aside0.mk hbox; have GW453 := sqg HB hg; have GE453 := sqg HB hg; replace HB := sqs HB hb; clear hb hbox hg) | ((with_reducible refine gate_dst (N := 3) rfl ?_); refine sqx 3 #[.int .i64 a1_0, .int .i64 a1_1] 26 ?_; intro gb454 hg w5 hbox hb; have BK454 := Aside0.mk hbox; have GW454 := sqg HB hg; have GE454 := sqg HB hg; have NB453_454 := sqn BK453 hg; have NB454_453 := sqm BK453 hg; replace BK453 := sqb BK453 hb; replace HB := sqs HB hb; clear hb hbox hg)))
 (try simp only [Act.put, List.setIfInBounds_toArray, List.set_cons_zero, List.set_cons_succ])
 go_cut [12] (fun v12 wc => ∃ (kq : Nat) (x12_2 : Bool), v12 = .bool x12_2 ∧ Aside0 (impl_RestIn.j0 kq x12_2 a0_0 a0_1 a1_0 a1_1 = some r) ∧ Aside0 (kq ≤ k) ∧ Aside0 (wc.heap[gb453]? = some (.cells #[.int .i64 a0_0, .int .i64 a0_1] 26 (0, 0))) ∧ Aside0 (wc.heap[gb454]? = some (.cells #[.int .i64 a1_0, .int .i64 a1_1] 26 (0, 0))) ∧ Aside0 (Below w.heap.size w wc))
 case first =>
  have H := HC3.out
  clear HC3
  replace H := sqbi H
  obtain ⟨t455, A6, H⟩ := H
  replace H : (if t455 = true then ((impl_RestOk.f a1_0 a1_1).bind fun t456 => (impl_RestIn.j0 k (!t456) a0_0 a0_1 a1_0 a1_1)) else (impl_RestIn.j0 k true a0_0 a0_1 a1_0 a1_1)) = some r := H
  rcases sqI (t455 = true) with c7 | c7
  ·replace c7 := Bool.eq_false_iff.mpr c7
   subst c7
   have H1 : (impl_RestIn.j0 k true a0_0 a0_1 a1_0 a1_1) = some r := by rw [if_neg (show ¬ (false = true) by decide)] at H; exact H
   clear H
   have H := H1
   clear H1
   have H' := Aside0.mk H
   clear H
   have hnb14 := NB453_454.out
   have hnc14 := NB454_453.out
   obtain ⟨hcz15_0, hcz15_1, hfz15_0, hfz15_1⟩ := sqc2 BK453
   go_wp2_with (first | (go_at_call 65; (with_reducible refine (impl_RestOk.calls a0_0 a0_1 false _ A6.out).mono ?_); rintro e w16 ⟨rfl, hb⟩; refine sqM2 BK453 BK454 hb ?_; clear BK453 BK454; intro BK453 BK454; replace HB := sqs HB hb; (try clear hb)))
   repeat (go_quiet (first | (go_at_call 65; (with_reducible refine (impl_RestOk.calls a0_0 a0_1 false _ A6.out).mono ?_); rintro e w16 ⟨rfl, hb⟩; refine sqM2 BK453 BK454 hb ?_; clear BK453 BK454; intro BK453 BK454; replace HB := sqs HB hb; (try clear hb))); try go_wp2_with (first | (go_at_call 65; (with_reducible refine (impl_RestOk.calls a0_0 a0_1 false _ A6.out).mono ?_); rintro e w16 ⟨rfl, hb⟩; refine sqM2 BK453 BK454 hb ?_; clear BK453 BK454; intro BK453 BK454; replace HB := sqs HB hb; (try clear hb))))
   go_meet
   case rel => exact ⟨_, (true), (by first | rfl | (simp; done) | (simp [*]; done)), H', ⟨by first | omega | exact Nat.le_refl _⟩, sqk BK453, sqk BK454, sqh HB⟩
  subst c7
  have H1 : ((impl_RestOk.f a1_0 a1_1).bind fun t456 => (impl_RestIn.j0 k (!t456) a0_0 a0_1 a1_0 a1_1)) = some r := by rw [if_pos rfl] at H; exact H
  clear H
  have H := H1
  clear H1
  replace H := sqbi H
  obtain ⟨t456, A8, H⟩ := H
  replace H : (impl_RestIn.j0 k (!t456) a0_0 a0_1 a1_0 a1_1) = some r := H
  have H' := Aside0.mk H
  clear H
  have hnb9 := NB453_454.out
  have hnc9 := NB454_453.out
  obtain ⟨hcz10_0, hcz10_1, hfz10_0, hfz10_1⟩ := sqc2 BK453
  go_wp2_with (first | (go_at_call 65; (with_reducible refine (impl_RestOk.calls a0_0 a0_1 true _ A6.out).mono ?_); rintro e w11 ⟨rfl, hb⟩; refine sqM2 BK453 BK454 hb ?_; clear BK453 BK454; intro BK453 BK454; replace HB := sqs HB hb; (try clear hb); obtain ⟨hcz12_0, hcz12_1, hfz12_0, hfz12_1⟩ := sqc2 BK454) | (go_at_call 65; (with_reducible refine (impl_RestOk.calls a1_0 a1_1 t456 _ A8.out).mono ?_); rintro e w13 ⟨rfl, hb⟩; refine sqM2 BK453 BK454 hb ?_; clear BK453 BK454; intro BK453 BK454; replace HB := sqs HB hb; (try clear hb)))
  repeat (go_quiet (first | (go_at_call 65; (with_reducible refine (impl_RestOk.calls a0_0 a0_1 true _ A6.out).mono ?_); rintro e w11 ⟨rfl, hb⟩; refine sqM2 BK453 BK454 hb ?_; clear BK453 BK454; intro BK453 BK454; replace HB := sqs HB hb; (try clear hb); obtain ⟨hcz12_0, hcz12_1, hfz12_0, hfz12_1⟩ := sqc2 BK454) | (go_at_call 65; (with_reducible refine (impl_RestOk.calls a1_0 a1_1 t456 _ A8.out).mono ?_); rintro e w13 ⟨rfl, hb⟩; refine sqM2 BK453 BK454 hb ?_; clear BK453 BK454; intro BK453 BK454; replace HB := sqs HB hb; (try clear hb))); try go_wp2_with (first | (go_at_call 65; (with_reducible refine (impl_RestOk.calls a0_0 a0_1 true _ A6.out).mono ?_); rintro e w11 ⟨rfl, hb⟩; refine sqM2 BK453 BK454 hb ?_; clear BK453 BK454; intro BK453 BK454; replace HB := sqs HB hb; (try clear hb); obtain ⟨hcz12_0, hcz12_1, hfz12_0, hfz12_1⟩ := sqc2 BK454) | (go_at_call 65; (with_reducible refine (impl_RestOk.calls a1_0 a1_1 t456 _ A8.out).mono ?_); rintro e w13 ⟨rfl, hb⟩; refine sqM2 BK453 BK454 hb ?_; clear BK453 BK454; intro BK453 BK454; replace HB := sqs HB hb; (try clear hb))))
  go_meet
  case rel => exact ⟨_, (!t456), (by first | rfl | (simp; done) | (simp [*]; done)), H', ⟨by first | omega | exact Nat.le_refl _⟩, sqk BK453, sqk BK454, sqh HB⟩
 case rest =>
  clear HC3
  obtain ⟨kq, x12_2, rfl, HA, HJ2, BK453, BK454, HB⟩ := hcut
  cases kq with
  | zero => exact absurd HA.out (by simp [impl_RestIn.j0])
  | succ kj2 =>
   have H := HA.out
   clear HA
   simp only [impl_RestIn.j0] at H
   by_cases c17 : x12_2 = true
   ·subst c17
    have H1 : (some false) = some r := by rw [if_pos rfl] at H; exact H
    clear H
    have H := H1
    clear H1
    obtain rfl := Option.some.inj H
    go_wp2
    repeat (go_quiet (fail); try go_wp2)
    go_ret
    exact sqe HB
   replace c17 := Bool.eq_false_iff.mpr c17
   subst c17
   have H1 : (if a1_0 = 0 then (some (a0_0 == a1_0 && (a0_1 == a1_1))) else (if (Int.tmod a0_0 a1_0) = 0 then ((impl_restMod.f a0_1 a1_0).bind fun t457 => (some (t457 == a1_1))) else (some false))) = some r := by rw [if_neg (show ¬ (false = true) by decide)] at H; exact H
   clear H
   have H := H1
   clear H1
   replace H := sqj H
   rcases H with ⟨c18, H⟩ | ⟨c18, H⟩
   ·have c18b0 : (a1_0 == 0) = true := beq_iff_eq.mpr c18
    have c18b1 : (a1_0 != 0) = false := bne_eq_false_iff_eq.mpr c18
    clear c18
    obtain rfl := Option.some.inj H
    have hnb19 := NB454_453.out
    have hnc19 := NB453_454.out
    obtain ⟨hcz20_0, hcz20_1, hfz20_0, hfz20_1⟩ := sqc2 BK454
    obtain ⟨hcz21_0, hcz21_1, hfz21_0, hfz21_1⟩ := sqc2 BK453
    go_wp2
    repeat (go_quiet (fail); try go_wp2)
    go_ret
    exact sqe HB
   have c18b0 : (a1_0 == 0) = false := beq_eq_false_iff_ne.mpr c18
   have c18b1 : (a1_0 != 0) = true := bne_iff_ne.mpr c18
   replace H := sqi H
   rcases H with ⟨c22, H⟩ | ⟨c22, H⟩
   ·have c22b0 : ((Int.tmod a0_0 a1_0) == 0) = false := beq_eq_false_iff_ne.mpr c22
    have c22b1 : ((Int.tmod a0_0 a1_0) != 0) = true := bne_iff_ne.mpr c22
    obtain rfl := Option.some.inj H
    have hnb27 := NB454_453.out
    have hnc27 := NB453_454.out
    obtain ⟨hcz28_0, hcz28_1, hfz28_0, hfz28_1⟩ := sqc2 BK454
    obtain ⟨hcz29_0, hcz29_1, hfz29_0, hfz29_1⟩ := sqc2 BK453
    go_wp2
    repeat (go_quiet (fail); try go_wp2)
    go_ret
    exact sqe HB
   have c22b0 : ((Int.tmod a0_0 a1_0) == 0) = true := beq_iff_eq.mpr c22
   have c22b1 : ((Int.tmod a0_0 a1_0) != 0) = false := bne_eq_false_iff_eq.mpr c22
   clear c22
   replace H := sqbi H
   obtain ⟨t457, A23, H⟩ := H
   replace H : (some (t457 == a1_1)) = some r := H
   obtain rfl := Option.some.inj H
   have hnb24 := NB454_453.out
   have hnc24 := NB453_454.out
   obtain ⟨hcz25_0, hcz25_1, hfz25_0, hfz25_1⟩ := sqc2 BK454
   obtain ⟨hcz26_0, hcz26_1, hfz26_0, hfz26_1⟩ := sqc2 BK453
   go_wp2_with (first | (go_at_call 98; (with_reducible refine (impl_restMod.calls a0_1 a1_0 t457 _ A23.out).mono ?_); rintro e w' ⟨rfl, ⟨nd, rfl⟩⟩; (try first | exact ⟨rfl, _, World.drewN_drewN _ _ _⟩ | exact ⟨rfl, _, Eq.trans (World.drewN_drewN _ _ _) (congrArg (World.drewN _) (Nat.add_assoc _ _ _))⟩)))
   repeat (go_quiet (first | (go_at_call 98; (with_reducible refine (impl_restMod.calls a0_1 a1_0 t457 _ A23.out).mono ?_); rintro e w' ⟨rfl, ⟨nd, rfl⟩⟩; (try first | exact ⟨rfl, _, World.drewN_drewN _ _ _⟩ | exact ⟨rfl, _, Eq.trans (World.drewN_drewN _ _ _) (congrArg (World.drewN _) (Nat.add_assoc _ _ _))⟩))); try go_wp2_with (first | (go_at_call 98; (with_reducible refine (impl_restMod.calls a0_1 a1_0 t457 _ A23.out).mono ?_); rintro e w' ⟨rfl, ⟨nd, rfl⟩⟩; (try first | exact ⟨rfl, _, World.drewN_drewN _ _ _⟩ | exact ⟨rfl, _, Eq.trans (World.drewN_drewN _ _ _) (congrArg (World.drewN _) (Nat.add_assoc _ _ _))⟩))))
   go_ret
   exact sqe HB

end Go.Proofs.Ytkekcenlleebeaa.PFnExactAbsIn
