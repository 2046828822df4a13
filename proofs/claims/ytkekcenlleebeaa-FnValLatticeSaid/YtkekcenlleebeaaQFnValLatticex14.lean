/- Functions of the program as plain Lean functions, and that calls of them come to what these tell. Conditions: those in each law. -/
import Derived.Test.YtkekcenlleebeaaSq
import Derived.Test.YtkekcenlleebeaaDFnValLattice
import Derived.Test.YtkekcenlleebeaaQFnValLatticex0
import Derived.Test.YtkekcenlleebeaaQFnValLatticex6
import Derived.Test.YtkekcenlleebeaaQFnValLatticex7
import Derived.Test.YtkekcenlleebeaaQFnValLatticex8
import Derived.Test.YtkekcenlleebeaaQFnValLatticex11
namespace Go.Proofs.Ytkekcenlleebeaa.PFnValLattice
open Go.RowKit Go.Proofs.Ytkekcenlleebeaa.Sq Go.Proofs.YtkekcenlleebeaaW.PrintWords Go.Proofs.YtkekcenlleebeaaW.PrintLast Go.Proofs.YtkekcenlleebeaaW.PrintMore
attribute [local go_sem] max2_int min2_int max_two min_two max_three min_three max_four min_four   -- for this text's walks alone
set_option linter.unusedVariables false
set_option linter.unusedSimpArgs false

/-! ### laws_at: function 33 -/
set_option maxHeartbeats 8000000 in
set_option maxRecDepth 100000 in
theorem laws_at.calls (A0 : Option Addr) (c0 : Nat) (l0 : List Int) (a1 : Int) (r : Int) (w : World) (hr0 : Kd.C (Kd.int .u8) w A0 l0.length l0) (hc0 : l0.length ≤ c0) (h : laws_at.f l0 a1 = some r) :
  Calls Try.prog 33 #[.slice A0 l0.length c0, .int .i64 a1] w fun e w' => e = .returned (.int .u8 r) ∧ Drawn0 w w' := by
 have HR0 := Aside0.mk hr0
 have HC0 := Aside0.mk hc0
 clear hr0 hc0
 have H := h
 unfold laws_at.f at H
 clear h
 replace H := sqj H
 rcases H with ⟨c3, H⟩ | ⟨c3, H⟩
 ·have c3b0 : ((l0.length : Int) == 0) = true := beq_iff_eq.mpr c3
  have c3b1 : ((l0.length : Int) != 0) = false := bne_eq_false_iff_eq.mpr c3
  clear c3
  obtain rfl := Option.some.inj H
  go_enter Try.func33, Try.ntmps33
  go_wp2
  repeat (go_quiet (fail); try go_wp2)
  go_ret
  exact ⟨by first | rfl | (simp; done) | (simp [*]; done), by repeat (first | exact Drawn0.refl _ | apply Drawn0.step)⟩
 have c3b0 : ((l0.length : Int) == 0) = false := beq_eq_false_iff_ne.mpr c3
 have c3b1 : ((l0.length : Int) != 0) = true := bne_iff_ne.mpr c3
 have c3b2 : ¬ (l0 = []) := fun h_ => c3 (by rw [h_]; rfl)
 replace H := sqj H
 rcases H with ⟨c4, H⟩ | ⟨c4, H⟩
 ·have c4b0 := decide_eq_true c4
  clear c4
  replace H := sqi H
  rcases H with ⟨c5, H⟩ | ⟨c5, H⟩
  ·exact absurd H (by simp)
  have c5b0 := decide_eq_true c5
  clear c5
  obtain rfl := Option.some.inj H
  have p268 : 0 ≤ (a1 : Int) := sqd
  have q268 : a1 < (l0.length : Int) := sqd
  obtain ⟨ad268, e268, hx268_0⟩ := Kd.at_int HR0.out a1 p268 q268
  cases e268
  replace p268 := eq_true p268
  replace q268 := eq_true q268
  go_enter Try.func33, Try.ntmps33
  go_wp2
  repeat (go_quiet (fail); try go_wp2)
  go_ret
  exact ⟨by first | rfl | (simp; done) | (simp [*]; done), by repeat (first | exact Drawn0.refl _ | apply Drawn0.step)⟩
 have c4b0 := decide_eq_false c4
 clear c4
 obtain ⟨ji6, hji6⟩ : ∃ j_ : Int, (Int.tmod a1 (l0.length : Int)) = j_ := ⟨_, rfl⟩
 replace H : (if 0 ≤ (ji6) then (if (ji6) < (l0.length : Int) then (if 0 ≤ (Int.tmod (wrap64 ((wrap64 (a1 * 5)) + 1)) (l0.length : Int)) then (if (Int.tmod (wrap64 ((wrap64 (a1 * 5)) + 1)) (l0.length : Int)) < (l0.length : Int) then (some (((((((rd l0 (ji6)) * 31) % 256) + (rd l0 (Int.tmod (wrap64 ((wrap64 (a1 * 5)) + 1)) (l0.length : Int)))) % 256) + ((a1) % 256)) % 256)) else (none)) else (none)) else (none)) else (none)) = some r := by first | (rw [hji6] at H; exact H) | (simp only [hji6] at H ⊢; exact H)
 replace H := sqi H
 rcases H with ⟨c7, H⟩ | ⟨c7, H⟩
 ·exact absurd H (by simp)
 have c7b0 := decide_eq_true c7
 clear c7
 replace H := sqi H
 rcases H with ⟨c8, H⟩ | ⟨c8, H⟩
 ·exact absurd H (by simp)
 have c8b0 := decide_eq_true c8
 clear c8
 obtain ⟨ji9, hji9⟩ : ∃ j_ : Int, (Int.tmod (wrap64 ((wrap64 (a1 * 5)) + 1)) (l0.length : Int)) = j_ := ⟨_, rfl⟩
 replace H : (if 0 ≤ (ji9) then (if (ji9) < (l0.length : Int) then (some (((((((rd l0 (ji6)) * 31) % 256) + (rd l0 (ji9))) % 256) + ((a1) % 256)) % 256)) else (none)) else (none)) = some r := by first | (rw [hji9] at H; exact H) | (simp only [hji9] at H ⊢; exact H)
 replace H := sqi H
 rcases H with ⟨c10, H⟩ | ⟨c10, H⟩
 ·exact absurd H (by simp)
 have c10b0 := decide_eq_true c10
 clear c10
 replace H := sqi H
 rcases H with ⟨c11, H⟩ | ⟨c11, H⟩
 ·exact absurd H (by simp)
 have c11b0 := decide_eq_true c11
 clear c11
 obtain rfl := Option.some.inj H
 have p269 : 0 ≤ ((ji6) : Int) := sqd
 have q269 : (ji6) < (l0.length : Int) := sqd
 obtain ⟨ad269, e269, hx269_0⟩ := Kd.at_int HR0.out (ji6) p269 q269
 cases e269
 replace p269 := eq_true p269
 replace q269 := eq_true q269
 have p270 : 0 ≤ ((ji9) : Int) := sqd
 have q270 : (ji9) < (l0.length : Int) := sqd
 obtain ⟨ad270, e270, hx270_0⟩ := Kd.at_int HR0.out (ji9) p270 q270
 obtain rfl : ad269 = ad270 := (by injection e270)
 replace p270 := eq_true p270
 replace q270 := eq_true q270
 go_enter Try.func33, Try.ntmps33
 go_wp2
 repeat (go_quiet (fail); try go_wp2)
 go_ret
 exact ⟨by first | rfl | (simp; done) | (simp only [← hji6, ← hji9] <;> (first | rfl | simp)) | (simp [*]; done), by repeat (first | exact Drawn0.refl _ | apply Drawn0.step)⟩

/-! ### laws_wide: function 55 -/
set_option maxHeartbeats 8000000 in
set_option maxRecDepth 100000 in
theorem laws_wide.calls (A0 : Option Addr) (c0 : Nat) (l0 : List Int) (a1 : Int) (r : Int) (w : World) (hr0 : Kd.C (Kd.int .u8) w A0 l0.length l0) (hc0 : l0.length ≤ c0) (h : laws_wide.f l0 a1 = some r) :
  Calls Try.prog 55 #[.slice A0 l0.length c0, .int .i64 a1] w fun e w' => e = .returned (.int .i64 r) ∧ Drawn0 w w' := by
 have HR0 := Aside0.mk hr0
 have HC0 := Aside0.mk hc0
 clear hr0 hc0
 have H := h
 unfold laws_wide.f at H
 clear h
 replace H := sqbi H
 obtain ⟨t271, A3, H⟩ := H
 try dsimp only at H
 replace H := sqbi H
 obtain ⟨t272, A4, H⟩ := H
 try dsimp only at H
 replace H := sqbi H
 obtain ⟨t273, A5, H⟩ := H
 try dsimp only at H
 replace H := sqbi H
 obtain ⟨t274, A6, H⟩ := H
 try dsimp only at H
 obtain rfl := Option.some.inj H
 go_enter Try.func55, Try.ntmps55
 go_wp2_with (first | ((with_reducible refine gate_callee (f := 33) rfl ?_); refine sqL (some 7) Try.func33 #[.slice A0 l0.length c0, .int .i64 a1] ?_; (with_reducible refine (laws_at.calls _ _ l0 a1 t271 _ ?side1 ?side2 A3.out).mono ?_); (case side1 => exact sqC HR0.out); (case side2 => exact HC0.out); rintro e w' ⟨rfl, ⟨nd, rfl⟩⟩; refine ⟨_, rfl, ?_⟩) | ((with_reducible refine gate_callee (f := 33) rfl ?_); refine sqL (some 13) Try.func33 #[.slice A0 l0.length c0, .int .i64 (wrap64 (a1 + 1))] ?_; (with_reducible refine (laws_at.calls _ _ l0 (wrap64 (a1 + 1)) t272 _ ?side1 ?side2 A4.out).mono ?_); (case side1 => exact sqC HR0.out); (case side2 => exact HC0.out); rintro e w' ⟨rfl, ⟨nd, rfl⟩⟩; refine ⟨_, rfl, ?_⟩) | ((with_reducible refine gate_callee (f := 33) rfl ?_); refine sqL (some 20) Try.func33 #[.slice A0 l0.length c0, .int .i64 (wrap64 (a1 + 2))] ?_; (with_reducible refine (laws_at.calls _ _ l0 (wrap64 (a1 + 2)) t273 _ ?side1 ?side2 A5.out).mono ?_); (case side1 => exact sqC HR0.out); (case side2 => exact HC0.out); rintro e w' ⟨rfl, ⟨nd, rfl⟩⟩; refine ⟨_, rfl, ?_⟩) | ((with_reducible refine gate_callee (f := 33) rfl ?_); refine sqL (some 27) Try.func33 #[.slice A0 l0.length c0, .int .i64 (wrap64 (a1 + 3))] ?_; (with_reducible refine (laws_at.calls _ _ l0 (wrap64 (a1 + 3)) t274 _ ?side1 ?side2 A6.out).mono ?_); (case side1 => exact sqC HR0.out); (case side2 => exact HC0.out); rintro e w' ⟨rfl, ⟨nd, rfl⟩⟩; refine ⟨_, rfl, ?_⟩))
 go_ret
 exact ⟨by first | rfl | (simp; done) | (simp [*]; done), by repeat (first | exact Drawn0.refl _ | apply Drawn0.step)⟩

/-! ### laws_ofVal: function 82 -/
set_option maxHeartbeats 8000000 in
set_option maxRecDepth 100000 in
theorem laws_ofVal.calls (k : Nat) (a0_0 : Int) (a0_1 : Int) (a0_2 : Int) (a0_3 : Int) (A1 : Option Addr) (c1 : Nat) (l1 : List Int) (a2 : Int) (r : Int) (w : World) (hr1 : Kd.C (Kd.int .u8) w A1 l1.length l1) (hc1 : l1.length ≤ c1) (h : laws_ofVal.f k a0_0 a0_1 a0_2 a0_3 l1 a2 = some r) :
  Calls Try.prog 82 #[.agg #[.int .i64 a0_0, .int .i64 a0_1, .int .i64 a0_2, .int .i64 a0_3], .slice A1 l1.length c1, .int .i64 a2] w fun e w' => e = .returned (.int .i64 r) ∧ Below w.heap.size w w' := by
 have hu30 := Try.underlying30
 have HR1 := Aside0.mk hr1
 have HC1 := Aside0.mk hc1
 clear hr1 hc1
 have HB := Aside0.mk (Below.refl w.heap.size w)
 have H := h
 unfold laws_ofVal.f at H
 clear h
 have HC4 := Aside0.mk H
 clear H
 go_enter Try.func82, Try.ntmps82
 go_upto_region 1 with (first | ((with_reducible refine gate_dst (N := 3) rfl ?_); refine sqx 3 #[.int .i64 a0_0, .int .i64 a0_1, .int .i64 a0_2, .int .i64 a0_3] 30 ?_; intro gb275 hg w5 hbox hb; have BK275 := Aside0.mk hbox; have GW275 := sqg HB hg; replace HB := sqs HB hb; clear hb hbox hg))
 repeat (go_quiet (first | ((with_reducible refine gate_dst (N := 3) rfl ?_); refine sqx 3 #[.int .i64 a0_0, .int .i64 a0_1, .int .i64 a0_2, .int .i64 a0_3] 30 ?_; intro gb275 hg w5 hbox hb; have BK275 := Aside0.mk hbox; have GW275 := sqg HB hg; replace HB := sqs HB hb; clear hb hbox hg)); go_upto_region 1 with (first | ((with_reducible refine gate_dst (N := 3) rfl ?_); refine sqx 3 #[.int .i64 a0_0, .int .i64 a0_1, .int .i64 a0_2, .int .i64 a0_3] 30 ?_; intro gb275 hg w5 hbox hb; have BK275 := Aside0.mk hbox; have GW275 := sqg HB hg; replace HB := sqs HB hb; clear hb hbox hg)))
 (try simp only [Act.put, List.setIfInBounds_toArray, List.set_cons_zero, List.set_cons_succ])
 go_cut [18] (fun v18 wc => ∃ (kq : Nat) (x18_3 : Bool), v18 = .bool x18_3 ∧ Aside0 (laws_ofVal.j0 kq l1 a2 x18_3 a0_0 a0_1 a0_2 a0_3 = some r) ∧ Aside0 (kq ≤ k) ∧ Aside0 (wc.heap[gb275]? = some (.cells #[.int .i64 a0_0, .int .i64 a0_1, .int .i64 a0_2, .int .i64 a0_3] 30 (0, 0))) ∧ Aside0 (Below w.heap.size w wc))
 case first =>
  have H := HC4.out
  clear HC4
  replace H := sqbi H
  obtain ⟨t276, A6, H⟩ := H
  try dsimp only at H
  rcases sqI (t276 = true) with c7 | c7
  ·replace c7 := Bool.eq_false_iff.mpr c7
   subst c7
   have H1 : (laws_ofVal.j0 k l1 a2 true a0_0 a0_1 a0_2 a0_3) = some r := by rw [if_neg (show ¬ (false = true) by decide)] at H; exact H
   clear H
   have H := H1
   clear H1
   have H' := Aside0.mk H
   clear H
   obtain ⟨hcz11_0, hcz11_1, hcz11_2, hcz11_3, hfz11_0, hfz11_1, hfz11_2, hfz11_3⟩ := sqc4 BK275
   go_wp2_with (first | (go_at_call 80; (with_reducible refine (spec_ValOk.calls k a0_0 a0_1 a0_2 a0_3 false _ A6.out).mono ?_); rintro e w12 ⟨rfl, hb⟩; replace BK275 := sqb BK275 hb; replace HB := sqs HB hb; (try clear hb)))
   repeat (go_quiet (first | (go_at_call 80; (with_reducible refine (spec_ValOk.calls k a0_0 a0_1 a0_2 a0_3 false _ A6.out).mono ?_); rintro e w12 ⟨rfl, hb⟩; replace BK275 := sqb BK275 hb; replace HB := sqs HB hb; (try clear hb))); try go_wp2_with (first | (go_at_call 80; (with_reducible refine (spec_ValOk.calls k a0_0 a0_1 a0_2 a0_3 false _ A6.out).mono ?_); rintro e w12 ⟨rfl, hb⟩; replace BK275 := sqb BK275 hb; replace HB := sqs HB hb; (try clear hb))))
   go_meet
   case rel => exact ⟨_, (true), (by first | rfl | (simp; done) | (simp [*]; done)), H', ⟨by first | omega | exact Nat.le_refl _⟩, sqk BK275, sqh HB⟩
  subst c7
  have H1 : (laws_ofVal.j0 k l1 a2 (decide (a0_0 > a0_1)) a0_0 a0_1 a0_2 a0_3) = some r := by rw [if_pos rfl] at H; exact H
  clear H
  have H := H1
  clear H1
  have H' := Aside0.mk H
  clear H
  obtain ⟨hcz8_0, hcz8_1, hcz8_2, hcz8_3, hfz8_0, hfz8_1, hfz8_2, hfz8_3⟩ := sqc4 BK275
  go_wp2_with (first | (go_at_call 80; (with_reducible refine (spec_ValOk.calls k a0_0 a0_1 a0_2 a0_3 true _ A6.out).mono ?_); rintro e w9 ⟨rfl, hb⟩; replace BK275 := sqb BK275 hb; replace HB := sqs HB hb; (try clear hb); obtain ⟨hcz10_0, hcz10_1, hcz10_2, hcz10_3, hfz10_0, hfz10_1, hfz10_2, hfz10_3⟩ := sqc4 BK275))
  repeat (go_quiet (first | (go_at_call 80; (with_reducible refine (spec_ValOk.calls k a0_0 a0_1 a0_2 a0_3 true _ A6.out).mono ?_); rintro e w9 ⟨rfl, hb⟩; replace BK275 := sqb BK275 hb; replace HB := sqs HB hb; (try clear hb); obtain ⟨hcz10_0, hcz10_1, hcz10_2, hcz10_3, hfz10_0, hfz10_1, hfz10_2, hfz10_3⟩ := sqc4 BK275)); try go_wp2_with (first | (go_at_call 80; (with_reducible refine (spec_ValOk.calls k a0_0 a0_1 a0_2 a0_3 true _ A6.out).mono ?_); rintro e w9 ⟨rfl, hb⟩; replace BK275 := sqb BK275 hb; replace HB := sqs HB hb; (try clear hb); obtain ⟨hcz10_0, hcz10_1, hcz10_2, hcz10_3, hfz10_0, hfz10_1, hfz10_2, hfz10_3⟩ := sqc4 BK275)))
  go_meet
  case rel => exact ⟨_, (decide (a0_0 > a0_1)), (by first | rfl | (simp; done) | (simp [*]; done)), H', ⟨by first | omega | exact Nat.le_refl _⟩, sqk BK275, sqh HB⟩
 case rest =>
  clear HC4
  obtain ⟨kq, x18_3, rfl, HA, HJ3, BK275, HB⟩ := hcut
  cases kq with
  | zero => exact absurd HA.out (by simp [laws_ofVal.j0])
  | succ kj3 =>
   have H := HA.out
   clear HA
   simp only [laws_ofVal.j0] at H
   by_cases c13 : x18_3 = true
   ·subst c13
    have H1 : ((laws_at.f l1 a2).bind fun t277 => (some (wrap64 ((wrap64 (t277)) - 128)))) = some r := by rw [if_pos rfl] at H; exact H
    clear H
    have H := H1
    clear H1
    replace H := sqbi H
    obtain ⟨t277, A14, H⟩ := H
    try dsimp only at H
    obtain rfl := Option.some.inj H
    go_wp2_with (first | (go_at_call 33; (with_reducible refine (laws_at.calls _ _ l1 a2 t277 _ ?side1 ?side2 A14.out).mono ?_); (case side1 => exact sqC (Kd.C_below HR1.out HB.out)); (case side2 => exact HC1.out); rintro e w' ⟨rfl, ⟨nd, rfl⟩⟩; (try first | exact ⟨rfl, _, World.drewN_drewN _ _ _⟩ | exact ⟨rfl, _, sqda⟩)))
    repeat (go_quiet (first | (go_at_call 33; (with_reducible refine (laws_at.calls _ _ l1 a2 t277 _ ?side1 ?side2 A14.out).mono ?_); (case side1 => exact sqC (Kd.C_below HR1.out HB.out)); (case side2 => exact HC1.out); rintro e w' ⟨rfl, ⟨nd, rfl⟩⟩; (try first | exact ⟨rfl, _, World.drewN_drewN _ _ _⟩ | exact ⟨rfl, _, sqda⟩))); try go_wp2_with (first | (go_at_call 33; (with_reducible refine (laws_at.calls _ _ l1 a2 t277 _ ?side1 ?side2 A14.out).mono ?_); (case side1 => exact sqC (Kd.C_below HR1.out HB.out)); (case side2 => exact HC1.out); rintro e w' ⟨rfl, ⟨nd, rfl⟩⟩; (try first | exact ⟨rfl, _, World.drewN_drewN _ _ _⟩ | exact ⟨rfl, _, sqda⟩))))
    go_ret
    exact sqe HB
   replace c13 := Bool.eq_false_iff.mpr c13
   subst c13
   have H1 : (if a0_2 = 0 then (some a0_3) else ((laws_at.f l1 (wrap64 (a2 + 5))).bind fun t278 => (if (Int.tmod (wrap64 (t278)) 4) = 0 then (some a0_0) else (if (Int.tmod (wrap64 (t278)) 4) = 1 then (some a0_1) else ((laws_wide.f l1 a2).bind fun t279 => (if (wrap64 ((wrap64 (Int.tdiv (wrap64 (a0_1 - a0_0)) a0_2)) + 1)) = 0 then (none) else (some (wrap64 (a0_0 + (wrap64 (a0_2 * (Int.tmod t279 (wrap64 ((wrap64 (Int.tdiv (wrap64 (a0_1 - a0_0)) a0_2)) + 1)))))))))))))) = some r := by rw [if_neg (show ¬ (false = true) by decide)] at H; exact H
   clear H
   have H := H1
   clear H1
   replace H := sqj H
   rcases H with ⟨c15, H⟩ | ⟨c15, H⟩
   ·have c15b0 : (a0_2 == 0) = true := beq_iff_eq.mpr c15
    have c15b1 : (a0_2 != 0) = false := bne_eq_false_iff_eq.mpr c15
    clear c15
    obtain rfl := Option.some.inj H
    obtain ⟨hcz16_0, hcz16_1, hcz16_2, hcz16_3, hfz16_0, hfz16_1, hfz16_2, hfz16_3⟩ := sqc4 BK275
    go_wp2
    repeat (go_quiet (fail); try go_wp2)
    go_ret
    exact sqe HB
   have c15b0 : (a0_2 == 0) = false := beq_eq_false_iff_ne.mpr c15
   have c15b1 : (a0_2 != 0) = true := bne_iff_ne.mpr c15
   replace H := sqbi H
   obtain ⟨t278, A17, H⟩ := H
   try dsimp only at H
   replace H := sqj H
   rcases H with ⟨c18, H⟩ | ⟨c18, H⟩
   ·have c18b0 : ((Int.tmod (wrap64 (t278)) 4) == 0) = true := beq_iff_eq.mpr c18
    have c18b1 : ((Int.tmod (wrap64 (t278)) 4) != 0) = false := bne_eq_false_iff_eq.mpr c18
    clear c18
    obtain rfl := Option.some.inj H
    obtain ⟨hcz19_0, hcz19_1, hcz19_2, hcz19_3, hfz19_0, hfz19_1, hfz19_2, hfz19_3⟩ := sqc4 BK275
    go_wp2_with (first | (go_at_call 33; (with_reducible refine (laws_at.calls _ _ l1 (wrap64 (a2 + 5)) t278 _ ?side1 ?side2 A17.out).mono ?_); (case side1 => exact sqC (Kd.C_below HR1.out HB.out)); (case side2 => exact HC1.out); rintro e w' ⟨rfl, ⟨nd, rfl⟩⟩; (try first | exact ⟨rfl, _, World.drewN_drewN _ _ _⟩ | exact ⟨rfl, _, sqda⟩)))
    repeat (go_quiet (first | (go_at_call 33; (with_reducible refine (laws_at.calls _ _ l1 (wrap64 (a2 + 5)) t278 _ ?side1 ?side2 A17.out).mono ?_); (case side1 => exact sqC (Kd.C_below HR1.out HB.out)); (case side2 => exact HC1.out); rintro e w' ⟨rfl, ⟨nd, rfl⟩⟩; (try first | exact ⟨rfl, _, World.drewN_drewN _ _ _⟩ | exact ⟨rfl, _, sqda⟩))); try go_wp2_with (first | (go_at_call 33; (with_reducible refine (laws_at.calls _ _ l1 (wrap64 (a2 + 5)) t278 _ ?side1 ?side2 A17.out).mono ?_); (case side1 => exact sqC (Kd.C_below HR1.out HB.out)); (case side2 => exact HC1.out); rintro e w' ⟨rfl, ⟨nd, rfl⟩⟩; (try first | exact ⟨rfl, _, World.drewN_drewN _ _ _⟩ | exact ⟨rfl, _, sqda⟩))))
    go_ret
    exact sqe HB
   have c18b0 : ((Int.tmod (wrap64 (t278)) 4) == 0) = false := beq_eq_false_iff_ne.mpr c18
   have c18b1 : ((Int.tmod (wrap64 (t278)) 4) != 0) = true := bne_iff_ne.mpr c18
   replace H := sqj H
   rcases H with ⟨c20, H⟩ | ⟨c20, H⟩
   ·have c20b0 : ((Int.tmod (wrap64 (t278)) 4) == 1) = true := beq_iff_eq.mpr c20
    have c20b1 : ((Int.tmod (wrap64 (t278)) 4) != 1) = false := bne_eq_false_iff_eq.mpr c20
    clear c20
    obtain rfl := Option.some.inj H
    obtain ⟨hcz21_0, hcz21_1, hcz21_2, hcz21_3, hfz21_0, hfz21_1, hfz21_2, hfz21_3⟩ := sqc4 BK275
    go_wp2_with (first | (go_at_call 33; (with_reducible refine (laws_at.calls _ _ l1 (wrap64 (a2 + 5)) t278 _ ?side1 ?side2 A17.out).mono ?_); (case side1 => exact sqC (Kd.C_below HR1.out HB.out)); (case side2 => exact HC1.out); rintro e w' ⟨rfl, ⟨nd, rfl⟩⟩; (try first | exact ⟨rfl, _, World.drewN_drewN _ _ _⟩ | exact ⟨rfl, _, sqda⟩)))
    repeat (go_quiet (first | (go_at_call 33; (with_reducible refine (laws_at.calls _ _ l1 (wrap64 (a2 + 5)) t278 _ ?side1 ?side2 A17.out).mono ?_); (case side1 => exact sqC (Kd.C_below HR1.out HB.out)); (case side2 => exact HC1.out); rintro e w' ⟨rfl, ⟨nd, rfl⟩⟩; (try first | exact ⟨rfl, _, World.drewN_drewN _ _ _⟩ | exact ⟨rfl, _, sqda⟩))); try go_wp2_with (first | (go_at_call 33; (with_reducible refine (laws_at.calls _ _ l1 (wrap64 (a2 + 5)) t278 _ ?side1 ?side2 A17.out).mono ?_); (case side1 => exact sqC (Kd.C_below HR1.out HB.out)); (case side2 => exact HC1.out); rintro e w' ⟨rfl, ⟨nd, rfl⟩⟩; (try first | exact ⟨rfl, _, World.drewN_drewN _ _ _⟩ | exact ⟨rfl, _, sqda⟩))))
    go_ret
    exact sqe HB
   have c20b0 : ((Int.tmod (wrap64 (t278)) 4) == 1) = false := beq_eq_false_iff_ne.mpr c20
   have c20b1 : ((Int.tmod (wrap64 (t278)) 4) != 1) = true := bne_iff_ne.mpr c20
   replace H := sqbi H
   obtain ⟨t279, A22, H⟩ := H
   try dsimp only at H
   replace H := sqj H
   rcases H with ⟨c23, H⟩ | ⟨c23, H⟩
   ·exact absurd H (by simp)
   have c23b0 : ((wrap64 ((wrap64 (Int.tdiv (wrap64 (a0_1 - a0_0)) a0_2)) + 1)) == 0) = false := beq_eq_false_iff_ne.mpr c23
   have c23b1 : ((wrap64 ((wrap64 (Int.tdiv (wrap64 (a0_1 - a0_0)) a0_2)) + 1)) != 0) = true := bne_iff_ne.mpr c23
   obtain rfl := Option.some.inj H
   obtain ⟨hcz24_0, hcz24_1, hcz24_2, hcz24_3, hfz24_0, hfz24_1, hfz24_2, hfz24_3⟩ := sqc4 BK275
   go_wp2_with (first | (go_at_call 33; (with_reducible refine (laws_at.calls _ _ l1 (wrap64 (a2 + 5)) t278 _ ?side1 ?side2 A17.out).mono ?_); (case side1 => exact sqC (Kd.C_below HR1.out HB.out)); (case side2 => exact HC1.out); rintro e w' ⟨rfl, ⟨nd, rfl⟩⟩; (try first | exact ⟨rfl, _, World.drewN_drewN _ _ _⟩ | exact ⟨rfl, _, sqda⟩)) | (go_at_call 55; (with_reducible refine (laws_wide.calls _ _ l1 a2 t279 _ ?side1 ?side2 A22.out).mono ?_); (case side1 => exact sqC (Kd.C_below HR1.out (sqB HB))); (case side2 => exact HC1.out); rintro e w' ⟨rfl, ⟨nd, rfl⟩⟩; (try first | exact ⟨rfl, _, World.drewN_drewN _ _ _⟩ | exact ⟨rfl, _, sqda⟩)))
   repeat (go_quiet (first | (go_at_call 33; (with_reducible refine (laws_at.calls _ _ l1 (wrap64 (a2 + 5)) t278 _ ?side1 ?side2 A17.out).mono ?_); (case side1 => exact sqC (Kd.C_below HR1.out HB.out)); (case side2 => exact HC1.out); rintro e w' ⟨rfl, ⟨nd, rfl⟩⟩; (try first | exact ⟨rfl, _, World.drewN_drewN _ _ _⟩ | exact ⟨rfl, _, sqda⟩)) | (go_at_call 55; (with_reducible refine (laws_wide.calls _ _ l1 a2 t279 _ ?side1 ?side2 A22.out).mono ?_); (case side1 => exact sqC (Kd.C_below HR1.out (sqB HB))); (case side2 => exact HC1.out); rintro e w' ⟨rfl, ⟨nd, rfl⟩⟩; (try first | exact ⟨rfl, _, World.drewN_drewN _ _ _⟩ | exact ⟨rfl, _, sqda⟩))); try go_wp2_with (first | (go_at_call 33; (with_reducible refine (laws_at.calls _ _ l1 (wrap64 (a2 + 5)) t278 _ ?side1 ?side2 A17.out).mono ?_); (case side1 => exact sqC (Kd.C_below HR1.out HB.out)); (case side2 => exact HC1.out); rintro e w' ⟨rfl, ⟨nd, rfl⟩⟩; (try first | exact ⟨rfl, _, World.drewN_drewN _ _ _⟩ | exact ⟨rfl, _, sqda⟩)) | (go_at_call 55; (with_reducible refine (laws_wide.calls _ _ l1 a2 t279 _ ?side1 ?side2 A22.out).mono ?_); (case side1 => exact sqC (Kd.C_below HR1.out (sqB HB))); (case side2 => exact HC1.out); rintro e w' ⟨rfl, ⟨nd, rfl⟩⟩; (try first | exact ⟨rfl, _, World.drewN_drewN _ _ _⟩ | exact ⟨rfl, _, sqda⟩))))
   go_ret
   exact sqe HB

/-! ### spec_RestHas: function 23 -/
set_option maxHeartbeats 8000000 in
set_option maxRecDepth 100000 in
theorem spec_RestHas.calls (k : Nat) (a0_0 : Int) (a0_1 : Int) (a1 : Int) (r : Bool) (w : World) (h : spec_RestHas.f k a0_0 a0_1 a1 = some r) :
  Calls Try.prog 23 #[.agg #[.int .i64 a0_0, .int .i64 a0_1], .int .i64 a1] w fun e w' => e = .returned (.bool r) ∧ Below w.heap.size w w' := by
 have hu26 := Try.underlying26
 have HB := Aside0.mk (Below.refl w.heap.size w)
 have H := h
 unfold spec_RestHas.f at H
 clear h
 have HC3 := Aside0.mk H
 clear H
 go_enter Try.func23, Try.ntmps23
 go_upto_region 1 with (first | ((with_reducible refine gate_dst (N := 2) rfl ?_); refine sqx 2 #[.int .i64 a0_0, .int .i64 a0_1] 26 ?_; intro gb280 hg w4 hbox hb; have BK280 := Aside0.mk hbox; have GW280 := sqg HB hg; replace HB := sqs HB hb; clear hb hbox hg))
 repeat (go_quiet (first | ((with_reducible refine gate_dst (N := 2) rfl ?_); refine sqx 2 #[.int .i64 a0_0, .int .i64 a0_1] 26 ?_; intro gb280 hg w4 hbox hb; have BK280 := Aside0.mk hbox; have GW280 := sqg HB hg; replace HB := sqs HB hb; clear hb hbox hg)); go_upto_region 1 with (first | ((with_reducible refine gate_dst (N := 2) rfl ?_); refine sqx 2 #[.int .i64 a0_0, .int .i64 a0_1] 26 ?_; intro gb280 hg w4 hbox hb; have BK280 := Aside0.mk hbox; have GW280 := sqg HB hg; replace HB := sqs HB hb; clear hb hbox hg)))
 (try simp only [Act.put, List.setIfInBounds_toArray, List.set_cons_zero, List.set_cons_succ])
 go_cut [12] (fun v12 wc => ∃ (kq : Nat) (x12_2 : Bool), v12 = .bool x12_2 ∧ Aside0 (spec_RestHas.j0 kq a1 x12_2 a0_0 a0_1 = some r) ∧ Aside0 (kq ≤ k) ∧ Aside0 (wc.heap[gb280]? = some (.cells #[.int .i64 a0_0, .int .i64 a0_1] 26 (0, 0))) ∧ Aside0 (Below w.heap.size w wc))
 case first =>
  have H := HC3.out
  clear HC3
  replace H := sqbi H
  obtain ⟨t281, A5, H⟩ := H
  try dsimp only at H
  rcases sqI (t281 = true) with c6 | c6
  ·replace c6 := Bool.eq_false_iff.mpr c6
   subst c6
   have H1 : (spec_RestHas.j0 k a1 true a0_0 a0_1) = some r := by rw [if_neg (show ¬ (false = true) by decide)] at H; exact H
   clear H
   have H := H1
   clear H1
   have H' := Aside0.mk H
   clear H
   obtain ⟨hcz10_0, hcz10_1, hfz10_0, hfz10_1⟩ := sqc2 BK280
   go_wp2_with (first | (go_at_call 66; (with_reducible refine (spec_RestOk.calls a0_0 a0_1 false _ A5.out).mono ?_); rintro e w11 ⟨rfl, hb⟩; replace BK280 := sqb BK280 hb; replace HB := sqs HB hb; (try clear hb)))
   repeat (go_quiet (first | (go_at_call 66; (with_reducible refine (spec_RestOk.calls a0_0 a0_1 false _ A5.out).mono ?_); rintro e w11 ⟨rfl, hb⟩; replace BK280 := sqb BK280 hb; replace HB := sqs HB hb; (try clear hb))); try go_wp2_with (first | (go_at_call 66; (with_reducible refine (spec_RestOk.calls a0_0 a0_1 false _ A5.out).mono ?_); rintro e w11 ⟨rfl, hb⟩; replace BK280 := sqb BK280 hb; replace HB := sqs HB hb; (try clear hb))))
   go_meet
   case rel => exact ⟨_, (true), (by first | rfl | (simp; done) | (simp [*]; done)), H', ⟨by first | omega | exact Nat.le_refl _⟩, sqk BK280, sqh HB⟩
  subst c6
  have H1 : ((spec_NumOk.f a1).bind fun t282 => (spec_RestHas.j0 k a1 (!t282) a0_0 a0_1)) = some r := by rw [if_pos rfl] at H; exact H
  clear H
  have H := H1
  clear H1
  replace H := sqbi H
  obtain ⟨t282, A7, H⟩ := H
  try dsimp only at H
  have H' := Aside0.mk H
  clear H
  obtain ⟨hcz8_0, hcz8_1, hfz8_0, hfz8_1⟩ := sqc2 BK280
  go_wp2_with (first | (go_at_call 66; (with_reducible refine (spec_RestOk.calls a0_0 a0_1 true _ A5.out).mono ?_); rintro e w9 ⟨rfl, hb⟩; replace BK280 := sqb BK280 hb; replace HB := sqs HB hb; (try clear hb)) | (go_at_call 56; (with_reducible refine (spec_NumOk.calls a1 t282 _ A7.out).mono ?_); rintro e w' ⟨rfl, ⟨nd, rfl⟩⟩; (try first | exact ⟨rfl, _, World.drewN_drewN _ _ _⟩ | exact ⟨rfl, _, sqda⟩)))
  repeat (go_quiet (first | (go_at_call 66; (with_reducible refine (spec_RestOk.calls a0_0 a0_1 true _ A5.out).mono ?_); rintro e w9 ⟨rfl, hb⟩; replace BK280 := sqb BK280 hb; replace HB := sqs HB hb; (try clear hb)) | (go_at_call 56; (with_reducible refine (spec_NumOk.calls a1 t282 _ A7.out).mono ?_); rintro e w' ⟨rfl, ⟨nd, rfl⟩⟩; (try first | exact ⟨rfl, _, World.drewN_drewN _ _ _⟩ | exact ⟨rfl, _, sqda⟩))); try go_wp2_with (first | (go_at_call 66; (with_reducible refine (spec_RestOk.calls a0_0 a0_1 true _ A5.out).mono ?_); rintro e w9 ⟨rfl, hb⟩; replace BK280 := sqb BK280 hb; replace HB := sqs HB hb; (try clear hb)) | (go_at_call 56; (with_reducible refine (spec_NumOk.calls a1 t282 _ A7.out).mono ?_); rintro e w' ⟨rfl, ⟨nd, rfl⟩⟩; (try first | exact ⟨rfl, _, World.drewN_drewN _ _ _⟩ | exact ⟨rfl, _, sqda⟩))))
  go_meet
  case rel => exact ⟨_, (!t282), (by first | rfl | (simp; done) | (simp [*]; done)), H', ⟨by first | omega | exact Nat.le_refl _⟩, sqk BK280, sqh HB⟩
 case rest =>
  clear HC3
  obtain ⟨kq, x12_2, rfl, HA, HJ2, BK280, HB⟩ := hcut
  cases kq with
  | zero => exact absurd HA.out (by simp [spec_RestHas.j0])
  | succ kj2 =>
   have H := HA.out
   clear HA
   simp only [spec_RestHas.j0] at H
   by_cases c12 : x12_2 = true
   ·subst c12
    have H1 : (some false) = some r := by rw [if_pos rfl] at H; exact H
    clear H
    have H := H1
    clear H1
    obtain rfl := Option.some.inj H
    go_wp2
    repeat (go_quiet (fail); try go_wp2)
    go_ret
    exact sqe HB
   replace c12 := Bool.eq_false_iff.mpr c12
   subst c12
   have H1 : (if a0_0 = 0 then (some (a1 == a0_1)) else ((spec_l1Mod.f a1 a0_0).bind fun t283 => (some (t283 == a0_1)))) = some r := by rw [if_neg (show ¬ (false = true) by decide)] at H; exact H
   clear H
   have H := H1
   clear H1
   replace H := sqj H
   rcases H with ⟨c13, H⟩ | ⟨c13, H⟩
   ·have c13b0 : (a0_0 == 0) = true := beq_iff_eq.mpr c13
    have c13b1 : (a0_0 != 0) = false := bne_eq_false_iff_eq.mpr c13
    clear c13
    obtain rfl := Option.some.inj H
    obtain ⟨hcz14_0, hcz14_1, hfz14_0, hfz14_1⟩ := sqc2 BK280
    go_wp2
    repeat (go_quiet (fail); try go_wp2)
    go_ret
    exact sqe HB
   have c13b0 : (a0_0 == 0) = false := beq_eq_false_iff_ne.mpr c13
   have c13b1 : (a0_0 != 0) = true := bne_iff_ne.mpr c13
   replace H := sqbi H
   obtain ⟨t283, A15, H⟩ := H
   try dsimp only at H
   obtain rfl := Option.some.inj H
   obtain ⟨hcz16_0, hcz16_1, hfz16_0, hfz16_1⟩ := sqc2 BK280
   go_wp2_with (first | (go_at_call 102; (with_reducible refine (spec_l1Mod.calls a1 a0_0 t283 _ A15.out).mono ?_); rintro e w' ⟨rfl, ⟨nd, rfl⟩⟩; (try first | exact ⟨rfl, _, World.drewN_drewN _ _ _⟩ | exact ⟨rfl, _, sqda⟩)))
   repeat (go_quiet (first | (go_at_call 102; (with_reducible refine (spec_l1Mod.calls a1 a0_0 t283 _ A15.out).mono ?_); rintro e w' ⟨rfl, ⟨nd, rfl⟩⟩; (try first | exact ⟨rfl, _, World.drewN_drewN _ _ _⟩ | exact ⟨rfl, _, sqda⟩))); try go_wp2_with (first | (go_at_call 102; (with_reducible refine (spec_l1Mod.calls a1 a0_0 t283 _ A15.out).mono ?_); rintro e w' ⟨rfl, ⟨nd, rfl⟩⟩; (try first | exact ⟨rfl, _, World.drewN_drewN _ _ _⟩ | exact ⟨rfl, _, sqda⟩))))
   go_ret
   exact sqe HB

end Go.Proofs.Ytkekcenlleebeaa.PFnValLattice
