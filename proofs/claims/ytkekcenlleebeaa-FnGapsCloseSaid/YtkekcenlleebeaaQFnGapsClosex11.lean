/- Functions of the program as plain Lean functions, and that calls of them come to what these tell. Conditions: those in each law. -/
import Derived.Test.YtkekcenlleebeaaSq
import Derived.Test.YtkekcenlleebeaaDFnGapsClose
import Derived.Test.YtkekcenlleebeaaQFnGapsClosex0
import Derived.Test.YtkekcenlleebeaaQFnGapsClosex2
import Derived.Test.YtkekcenlleebeaaQFnGapsClosex6
import Derived.Test.YtkekcenlleebeaaQFnGapsClosex7
namespace Go.Proofs.Ytkekcenlleebeaa.PFnGapsClose
open Go.RowKit Go.Proofs.Ytkekcenlleebeaa.Sq Go.Proofs.YtkekcenlleebeaaW.PrintWords Go.Proofs.YtkekcenlleebeaaW.PrintLast Go.Proofs.YtkekcenlleebeaaW.PrintMore
attribute [local go_sem] max2_int min2_int max_two min_two max_three min_three max_four min_four   -- for this text's walks alone
set_option linter.unusedVariables false
set_option linter.unusedSimpArgs false

/-! ### spec_NumOk: function 56 -/
set_option maxHeartbeats 8000000 in
set_option maxRecDepth 100000 in
theorem spec_NumOk.calls (a0 : Int) (r : Bool) (w : World) (h : spec_NumOk.f a0 = some r) :
  Calls Try.prog 56 #[.int .i64 a0] w fun e w' => e = .returned (.bool r) ∧ Drawn0 w w' := by
 have H : ((spec_l1In.f a0 (-2147483648) 2147483647).bind fun t298 => (some t298)) = some r := h
 clear h
 replace H := sqbi H
 obtain ⟨t298, A2, H⟩ := H
 replace H : (some t298) = some r := H
 obtain rfl := Option.some.inj H
 go_enter Try.func56, Try.ntmps56
 go_wp2_with (first | ((with_reducible refine gate_callee (f := 105) rfl ?_); refine sqL (some 4) Try.func105 #[.int .i64 a0, .int .i64 (-2147483648), .int .i64 2147483647] ?_; (with_reducible refine (spec_l1In.calls a0 (-2147483648) 2147483647 t298 _ A2.out).mono ?_); rintro e w' ⟨rfl, ⟨nd, rfl⟩⟩; refine ⟨_, rfl, ?_⟩))
 go_ret
 exact ⟨by first | rfl | (simp; done) | (simp [*]; done), by repeat (first | exact Drawn0.refl _ | apply Drawn0.step)⟩

/-! ### spec_GapsHas: function 29 -/
def spec_GapsHas.T14 : Bool × List (List Nat × List Nat) := (true, [([], []), ([], []), ([0, 1], [0, 1]), ([], []), ([], []), ([3, 4, 2], [3, 4]), ([2, 5], [2, 5]), ([], []), ([], []), ([], []), ([7, 8, 9, 5], [7, 8, 9]), ([6, 10], [6, 10])])
def spec_GapsHas.B14 : List Nat := [0, 0, 3, 0, 0, 31, 63, 0, 0, 0, 959, 2047]
theorem spec_GapsHas.tab14 : rtab .any (opsOf Try.f29 14) = spec_GapsHas.T14 := by kernel_rfl
theorem spec_GapsHas.bits14 : waitsOk spec_GapsHas.T14.2 spec_GapsHas.B14 = true := by kernel_rfl
set_option maxHeartbeats 8000000 in
set_option maxRecDepth 100000 in
theorem spec_GapsHas.calls (k : Nat) (a0_0 : Int) (A0_1 : Option Addr) (c0_1 : Nat) (l0_1 : List Int) (A1 : Option Addr) (c1 : Nat) (l1 : List Int) (r : Bool) (w : World) (hr0_1 : Kd.C (Kd.int .i64) w A0_1 l0_1.length l0_1) (hc0_1 : l0_1.length ≤ c0_1) (hr1 : Kd.C (Kd.int .i64) w A1 l1.length l1) (hc1 : l1.length ≤ c1) (h : spec_GapsHas.f k a0_0 l0_1 l1 = some r) :
  Calls Try.prog 29 #[.agg #[.int .i64 a0_0, .slice A0_1 l0_1.length c0_1], .slice A1 l1.length c1] w fun e w' => e = .returned (.bool r) ∧ Below w.heap.size w w' := by
 have hu41 := Try.underlying41
 have HR0_1 := Aside0.mk hr0_1
 have HC0_1 := Aside0.mk hc0_1
 clear hr0_1 hc0_1
 have HR1 := Aside0.mk hr1
 have HC1 := Aside0.mk hc1
 clear hr1 hc1
 have HB := Aside0.mk (Below.refl w.heap.size w)
 have H : ((spec_GapsOk.f k a0_0 l0_1).bind fun t300 => (if t300 = true then (spec_GapsHas.j0 k l1 ((l1.length : Int) != a0_0) a0_0 l0_1) else (spec_GapsHas.j0 k l1 true a0_0 l0_1))) = some r := h
 clear h
 have HC3 := Aside0.mk H
 clear H
 go_enter Try.func29, Try.ntmps29
 go_upto_region 1 with (first | ((with_reducible refine gate_dst (N := 2) rfl ?_); (try (refine gate_guard (by rfl) ?_; dsimp only)); refine sqx 2 #[.int .i64 a0_0, .slice A0_1 l0_1.length c0_1] 41 ?_; intro gb299 hg w4 hbox hb; have BK299 := Aside0.mk hbox; have GW299 := sqg HB hg; have GE299 := sqg HB hg; replace HB := sqs HB hb; clear hb hbox hg))
 (try simp only [Act.put, List.setIfInBounds_toArray, List.set_cons_zero, List.set_cons_succ])
 go_cut [17] (fun v17 wc => ∃ (kq : Nat) (x17_2 : Bool), v17 = .bool x17_2 ∧ Aside0 (spec_GapsHas.j0 kq l1 x17_2 a0_0 l0_1 = some r) ∧ Aside0 (kq ≤ k) ∧ Aside0 (wc.heap[gb299]? = some (.cells #[.int .i64 a0_0, (.slice A0_1 l0_1.length c0_1)] 41 (0, 0))) ∧ Aside0 (Below w.heap.size w wc))
 case first =>
  have H := HC3.out
  clear HC3
  replace H := sqbi H
  obtain ⟨t300, A5, H⟩ := H
  replace H : (if t300 = true then (spec_GapsHas.j0 k l1 ((l1.length : Int) != a0_0) a0_0 l0_1) else (spec_GapsHas.j0 k l1 true a0_0 l0_1)) = some r := H
  rcases sqI (t300 = true) with c6 | c6
  ·replace c6 := Bool.eq_false_iff.mpr c6
   subst c6
   have H1 : (spec_GapsHas.j0 k l1 true a0_0 l0_1) = some r := by rw [if_neg (show ¬ (false = true) by decide)] at H; exact H
   clear H
   have H := H1
   clear H1
   have H' := Aside0.mk H
   clear H
   obtain ⟨hcz10_0, hcz10_1, hfz10_0, hfz10_1⟩ := sqc2 BK299
   go_wp2_with (first | ((with_reducible refine gate_callee (f := 41) rfl ?_); refine sqL (some 9) Try.func41 #[.agg #[.int .i64 a0_0, .slice A0_1 l0_1.length c0_1]] ?_; (with_reducible refine (spec_GapsOk.calls k a0_0 _ _ l0_1 false _ ?side1 ?side2 A5.out).mono ?_); (case side1 => exact sqC (Kd.C_below HR0_1.out HB.out)); (case side2 => exact HC0_1.out); rintro e w11 ⟨rfl, hb⟩; refine ⟨_, rfl, ?_⟩; replace BK299 := sqb BK299 hb; replace HB := sqs HB hb; (try clear hb)))
   go_meet
   case rel => exact ⟨_, (true), (by first | rfl | (simp; done) | (simp [*]; done)), H', ⟨by first | omega | exact Nat.le_refl _⟩, sqk BK299, sqh HB⟩
  subst c6
  have H1 : (spec_GapsHas.j0 k l1 ((l1.length : Int) != a0_0) a0_0 l0_1) = some r := by rw [if_pos rfl] at H; exact H
  clear H
  have H := H1
  clear H1
  have H' := Aside0.mk H
  clear H
  obtain ⟨hcz7_0, hcz7_1, hfz7_0, hfz7_1⟩ := sqc2 BK299
  go_wp2_with (first | ((with_reducible refine gate_callee (f := 41) rfl ?_); refine sqL (some 9) Try.func41 #[.agg #[.int .i64 a0_0, .slice A0_1 l0_1.length c0_1]] ?_; (with_reducible refine (spec_GapsOk.calls k a0_0 _ _ l0_1 true _ ?side1 ?side2 A5.out).mono ?_); (case side1 => exact sqC (Kd.C_below HR0_1.out HB.out)); (case side2 => exact HC0_1.out); rintro e w8 ⟨rfl, hb⟩; refine ⟨_, rfl, ?_⟩; replace BK299 := sqb BK299 hb; replace HB := sqs HB hb; (try clear hb); obtain ⟨hcz9_0, hcz9_1, hfz9_0, hfz9_1⟩ := sqc2 BK299))
  go_meet
  case rel => exact ⟨_, (((l1.length : Int) != a0_0)), (by first | rfl | (simp; done) | (simp [*]; done)), H', ⟨by first | omega | exact Nat.le_refl _⟩, sqk BK299, sqh HB⟩
 case rest =>
  clear HC3
  obtain ⟨kq, x17_2, rfl, HA, HJ2, BK299, HB⟩ := hcut
  cases kq with
  | zero => exact absurd HA.out (by simp [spec_GapsHas.j0])
  | succ kj2 =>
   have H := HA.out
   clear HA
   simp only [spec_GapsHas.j0] at H
   by_cases c12 : x17_2 = true
   ·subst c12
    have H1 : (some false) = some r := by rw [if_pos rfl] at H; exact H
    clear H
    have H := H1
    clear H1
    obtain rfl := Option.some.inj H
    go_wp2
    go_ret
    exact sqe HB
   replace c12 := Bool.eq_false_iff.mpr c12
   subst c12
   have H1 : (spec_GapsHas.l0 kj2 l1 0 a0_0 l0_1) = some r := by rw [if_neg (show ¬ (false = true) by decide)] at H; exact H
   clear H
   have H := H1
   clear H1
   have H' := Aside0.mk H
   clear H
   go_wp2
   go_loopg [5] kj2 (fun kq v5 w' => ∃ (x5_2 : Int), v5 = .int .i64 x5_2 ∧ Aside0 (spec_GapsHas.l0 kq l1 x5_2 a0_0 l0_1 = some r) ∧ Aside0 (kq ≤ kj2) ∧ Aside0 (w'.heap[gb299]? = some (.cells #[.int .i64 a0_0, (.slice A0_1 l0_1.length c0_1)] 41 (0, 0))) ∧ Aside0 (Below w.heap.size w w'))
   case atStart => exact ⟨(0), (by first | rfl | (simp; done) | (simp [*]; done)), H', ⟨Nat.le_refl _⟩, sqk BK299, sqh HB⟩
   case round =>
    clear H'
    obtain ⟨x5_2, rfl, HA, HK2, BK299, HB⟩ := hrel
    cases gk with
    | zero => exact absurd HA.out (by simp [spec_GapsHas.l0])
    | succ k2 =>
     have H := HA.out
     clear HA
     simp only [spec_GapsHas.l0] at H
     replace H := sqj H
     rcases H with ⟨c13, H⟩ | ⟨c13, H⟩
     ·have c13b0 := decide_eq_true c13
      clear c13
      replace H := sqi H
      rcases H with ⟨c14, H⟩ | ⟨c14, H⟩
      ·exact absurd H (by simp)
      have c14b0 := decide_eq_true c14
      clear c14
      replace H := sqbi H
      obtain ⟨t302, A15, H⟩ := H
      replace H : (if t302 = true then (spec_GapsHas.l0 k2 l1 (wrap64 (x5_2 + 1)) a0_0 l0_1) else (some false)) = some r := H
      rcases sqI (t302 = true) with c16 | c16
      ·replace c16 := Bool.eq_false_iff.mpr c16
       subst c16
       have H1 : (some false) = some r := by rw [if_neg (show ¬ (false = true) by decide)] at H; exact H
       clear H
       have H := H1
       clear H1
       obtain rfl := Option.some.inj H
       have p301 : 0 ≤ (x5_2 : Int) := sqd
       have q301 : x5_2 < (l1.length : Int) := sqd
       obtain ⟨ad301, e301, hx301_0⟩ := Kd.at_int HR1.out x5_2 p301 q301
       cases e301
       replace hx301_0 := sqa HB hx301_0
       replace p301 := eq_true p301
       replace q301 := eq_true q301
       go_wp2_with (first | ((with_reducible refine gate_callee (f := 56) rfl ?_); refine sqL (some 28) Try.func56 #[.int .i64 (rd l1 x5_2)] ?_; (with_reducible refine (spec_NumOk.calls (rd l1 x5_2) false _ A15.out).mono ?_); rintro e w' ⟨rfl, ⟨nd, rfl⟩⟩; refine ⟨_, rfl, ?_⟩))
       go_ret
       exact sqe HB
      subst c16
      have H1 : (spec_GapsHas.l0 k2 l1 (wrap64 (x5_2 + 1)) a0_0 l0_1) = some r := by rw [if_pos rfl] at H; exact H
      clear H
      have H := H1
      clear H1
      have H' := Aside0.mk H
      clear H
      have p301 : 0 ≤ (x5_2 : Int) := sqd
      have q301 : x5_2 < (l1.length : Int) := sqd
      obtain ⟨ad301, e301, hx301_0⟩ := Kd.at_int HR1.out x5_2 p301 q301
      cases e301
      replace hx301_0 := sqa HB hx301_0
      replace p301 := eq_true p301
      replace q301 := eq_true q301
      go_wp2_with (first | ((with_reducible refine gate_callee (f := 56) rfl ?_); refine sqL (some 28) Try.func56 #[.int .i64 (rd l1 x5_2)] ?_; (with_reducible refine (spec_NumOk.calls (rd l1 x5_2) true _ A15.out).mono ?_); rintro e w' ⟨rfl, ⟨nd, rfl⟩⟩; refine ⟨_, rfl, ?_⟩))
      go_roundg k2
      case measure => have := HJ2.out; have := HK2.out; omega
      case rel => exact ⟨(wrap64 (x5_2 + 1)), (by first | rfl | (simp; done) | (simp [*]; done)), H', ⟨by have := HJ2.out; have := HK2.out; omega⟩, sqk BK299, sqh HB⟩
     have c13b0 := decide_eq_false c13
     clear c13
     have H' := Aside0.mk H
     clear H
     go_wp2
     go_loopg [6] k2 (fun kq v6 w' => ∃ (x6_3 : Int), v6 = .int .i64 x6_3 ∧ Aside0 (spec_GapsHas.l1 kq l1 x6_3 a0_0 l0_1 = some r) ∧ Aside0 (kq ≤ k2) ∧ Aside0 (w'.heap[gb299]? = some (.cells #[.int .i64 a0_0, (.slice A0_1 l0_1.length c0_1)] 41 (0, 0))) ∧ Aside0 (Below w.heap.size w w'))
     case atStart => exact ⟨(0), (by first | rfl | (simp; done) | (simp [*]; done)), H', ⟨Nat.le_refl _⟩, sqk BK299, sqh HB⟩
     case round =>
      clear H'
      obtain ⟨x6_3, rfl, HA, HK3, BK299, HB⟩ := hrel
      cases gk with
      | zero => exact absurd HA.out (by simp [spec_GapsHas.l1])
      | succ k3 =>
       have H := HA.out
       clear HA
       simp only [spec_GapsHas.l1] at H
       replace H := sqi H
       rcases H with ⟨c17, H⟩ | ⟨c17, H⟩
       ·have c17b0 := decide_eq_false c17
        clear c17
        obtain rfl := Option.some.inj H
        obtain ⟨hcz31_0, hcz31_1, hfz31_0, hfz31_1⟩ := sqc2 BK299
        go_wp2
        go_ret
        exact sqe HB
       have c17b0 := decide_eq_true c17
       clear c17
       have H' := Aside0.mk H
       clear H
       obtain ⟨hcz18_0, hcz18_1, hfz18_0, hfz18_1⟩ := sqc2 BK299
       go_wp2
       go_loopg [7] k3 (fun kq v7 w' => ∃ (x7_4 : Int), v7 = .int .i64 x7_4 ∧ Aside0 (spec_GapsHas.l2 kq l1 x6_3 x7_4 a0_0 l0_1 = some r) ∧ Aside0 (kq ≤ k3) ∧ Aside0 (w'.heap[gb299]? = some (.cells #[.int .i64 a0_0, (.slice A0_1 l0_1.length c0_1)] 41 (0, 0))) ∧ Aside0 (Below w.heap.size w w'))
       case atStart => exact ⟨(0), (by first | rfl | (simp; done) | (simp [*]; done)), H', ⟨Nat.le_refl _⟩, sqk BK299, sqh HB⟩
       case round =>
        clear H'
        obtain ⟨x7_4, rfl, HA, HK4, BK299, HB⟩ := hrel
        cases gk with
        | zero => exact absurd HA.out (by simp [spec_GapsHas.l2])
        | succ k4 =>
         have H := HA.out
         clear HA
         simp only [spec_GapsHas.l2] at H
         replace H := sqi H
         rcases H with ⟨c19, H⟩ | ⟨c19, H⟩
         ·have c19b0 := decide_eq_false c19
          clear c19
          have H' := Aside0.mk H
          clear H
          obtain ⟨hcz30_0, hcz30_1, hfz30_0, hfz30_1⟩ := sqc2 BK299
          go_wp2
          go_roundg k4
          case measure => have := HJ2.out; have := HK2.out; have := HK3.out; have := HK4.out; omega
          case rel => exact ⟨(wrap64 (x6_3 + 1)), (by first | rfl | (simp; done) | (simp [*]; done)), H', ⟨by have := HJ2.out; have := HK2.out; have := HK3.out; have := HK4.out; omega⟩, sqk BK299, sqh HB⟩
         have c19b0 := decide_eq_true c19
         clear c19
         replace H := sqbi H
         obtain ⟨t303, A20, H⟩ := H
         replace H : ((spec_l11Num.f l1 x7_4).bind fun t304 => ((spec_l11At.f a0_0 l0_1 x6_3 x7_4).bind fun t305 => (if (wrap64 (t303 - t304)) > t305 then (some false) else (spec_GapsHas.l2 k4 l1 x6_3 (wrap64 (x7_4 + 1)) a0_0 l0_1)))) = some r := H
         replace H := sqbi H
         obtain ⟨t304, A21, H⟩ := H
         replace H : ((spec_l11At.f a0_0 l0_1 x6_3 x7_4).bind fun t305 => (if (wrap64 (t303 - t304)) > t305 then (some false) else (spec_GapsHas.l2 k4 l1 x6_3 (wrap64 (x7_4 + 1)) a0_0 l0_1))) = some r := H
         replace H := sqbi H
         obtain ⟨t305, A22, H⟩ := H
         replace H : (if (wrap64 (t303 - t304)) > t305 then (some false) else (spec_GapsHas.l2 k4 l1 x6_3 (wrap64 (x7_4 + 1)) a0_0 l0_1)) = some r := H
         replace H := sqj H
         rcases H with ⟨c23, H⟩ | ⟨c23, H⟩
         ·have c23b0 : decide (t305 < (wrap64 (t303 - t304))) = true := decide_eq_true c23
          clear c23
          obtain rfl := Option.some.inj H
          obtain ⟨hcz24_0, hcz24_1, hfz24_0, hfz24_1⟩ := sqc2 BK299
          try go_wp2
          replace BK299 := Aside0.mk (blk_drew BK299.out)
          replace HB := Aside0.mk (below_drew1 HB.out)
          refine start_ (n := 12) (S := fun w' => w'.cell? ⟨gb299, 0, none⟩ = some (.int .i64 a0_0) ∧ w'.cell? ⟨gb299, 1, none⟩ = some (.slice A0_1 l0_1.length c0_1)) (ds := []) #[false, false, false, false, false, false, false, false, false, false, false, false] (by kernel_rfl) rfl rfl sqz (fun hHeld => ?_); refine with_tabW spec_GapsHas.tab14 spec_GapsHas.bits14 (fun HT_ HW_ => ?_)
          generalize wr.drew = w25 at BK299 HB hHeld ⊢
          refine sqp HT_ 0 42 ?_
          refine sqp HT_ 1 43 ?_
          refine sqp HT_ 3 45 ?_
          refine sqp HT_ 4 46 ?_
          refine sqp HT_ 8 50 ?_
          refine sqp HT_ 9 51 ?_
          refine sqw HT_ HW_ 7 49 hHeld ?_
          refine sqo HT_ 2 44 (fun K hK => ?_)
          refine sqG Try.func119 #[.slice A1 l1.length c1, .int .i64 x6_3] ?_
          with_reducible refine (spec_l11Num.calls _ _ l1 x6_3 t303 _ ?side1 ?side2 A20.out).mono ?_
          (case side1 => exact sqC (Kd.C_below HR1.out HB.out))
          (case side2 => exact HC1.out)
          rintro e w' ⟨rfl, ⟨nd, rfl⟩⟩
          refine ⟨_, rfl, ?_⟩
          refine hK.out _ _ sqz (fun hHeld => ?_)
          clear hK K
          refine sqnm ?_
          refine sqo HT_ 5 47 (fun K hK => ?_)
          refine sqG Try.func119 #[.slice A1 l1.length c1, .int .i64 x7_4] ?_
          with_reducible refine (spec_l11Num.calls _ _ l1 x7_4 t304 _ ?side1 ?side2 A21.out).mono ?_
          (case side1 => exact sqC (Kd.C_below HR1.out (sqB HB)))
          (case side2 => exact HC1.out)
          rintro e w' ⟨rfl, ⟨nd, rfl⟩⟩
          refine ⟨_, rfl, ?_⟩
          refine hK.out _ _ sqz (fun hHeld => ?_)
          clear hK K
          refine sqnm ?_
          refine sqp HT_ 6 48 ?_
          refine sqo HT_ 10 52 (fun K hK => ?_)
          refine sqG Try.func115 #[.agg #[.int .i64 a0_0, .slice A0_1 l0_1.length c0_1], .int .i64 x6_3, .int .i64 x7_4] ?_
          with_reducible refine (spec_l11At.calls a0_0 _ _ l0_1 x6_3 x7_4 t305 _ ?side1 ?side2 A22.out).mono ?_
          (case side1 => exact sqC (Kd.C_below HR0_1.out (sqB HB)))
          (case side2 => exact HC0_1.out)
          rintro e w26 ⟨rfl, hb⟩
          refine ⟨_, rfl, ?_⟩
          replace BK299 := sqb BK299 hb
          replace HB := sqs HB hb
          (try clear hb)
          refine hK.out _ _ sqz (fun hHeld => ?_)
          clear hK K
          refine sqnm ?_
          refine sqp HT_ 11 53 ?_
          refine done_ (done_of HT_.out (by kernel_rfl)) ?_
          try go_wp2
          go_ret
          exact sqe HB
         have c23b0 : decide (t305 < (wrap64 (t303 - t304))) = false := decide_eq_false c23
         clear c23
         have H' := Aside0.mk H
         clear H
         obtain ⟨hcz27_0, hcz27_1, hfz27_0, hfz27_1⟩ := sqc2 BK299
         try go_wp2
         replace BK299 := Aside0.mk (blk_drew BK299.out)
         replace HB := Aside0.mk (below_drew1 HB.out)
         refine start_ (n := 12) (S := fun w' => w'.cell? ⟨gb299, 0, none⟩ = some (.int .i64 a0_0) ∧ w'.cell? ⟨gb299, 1, none⟩ = some (.slice A0_1 l0_1.length c0_1)) (ds := []) #[false, false, false, false, false, false, false, false, false, false, false, false] (by kernel_rfl) rfl rfl sqz (fun hHeld => ?_); refine with_tabW spec_GapsHas.tab14 spec_GapsHas.bits14 (fun HT_ HW_ => ?_)
         generalize wr.drew = w28 at BK299 HB hHeld ⊢
         refine sqp HT_ 0 42 ?_
         refine sqp HT_ 1 43 ?_
         refine sqp HT_ 3 45 ?_
         refine sqp HT_ 4 46 ?_
         refine sqp HT_ 8 50 ?_
         refine sqp HT_ 9 51 ?_
         refine sqw HT_ HW_ 7 49 hHeld ?_
         refine sqo HT_ 2 44 (fun K hK => ?_)
         refine sqG Try.func119 #[.slice A1 l1.length c1, .int .i64 x6_3] ?_
         with_reducible refine (spec_l11Num.calls _ _ l1 x6_3 t303 _ ?side1 ?side2 A20.out).mono ?_
         (case side1 => exact sqC (Kd.C_below HR1.out HB.out))
         (case side2 => exact HC1.out)
         rintro e w' ⟨rfl, ⟨nd, rfl⟩⟩
         refine ⟨_, rfl, ?_⟩
         refine hK.out _ _ sqz (fun hHeld => ?_)
         clear hK K
         refine sqnm ?_
         refine sqo HT_ 5 47 (fun K hK => ?_)
         refine sqG Try.func119 #[.slice A1 l1.length c1, .int .i64 x7_4] ?_
         with_reducible refine (spec_l11Num.calls _ _ l1 x7_4 t304 _ ?side1 ?side2 A21.out).mono ?_
         (case side1 => exact sqC (Kd.C_below HR1.out (sqB HB)))
         (case side2 => exact HC1.out)
         rintro e w' ⟨rfl, ⟨nd, rfl⟩⟩
         refine ⟨_, rfl, ?_⟩
         refine hK.out _ _ sqz (fun hHeld => ?_)
         clear hK K
         refine sqnm ?_
         refine sqp HT_ 6 48 ?_
         refine sqo HT_ 10 52 (fun K hK => ?_)
         refine sqG Try.func115 #[.agg #[.int .i64 a0_0, .slice A0_1 l0_1.length c0_1], .int .i64 x6_3, .int .i64 x7_4] ?_
         with_reducible refine (spec_l11At.calls a0_0 _ _ l0_1 x6_3 x7_4 t305 _ ?side1 ?side2 A22.out).mono ?_
         (case side1 => exact sqC (Kd.C_below HR0_1.out (sqB HB)))
         (case side2 => exact HC0_1.out)
         rintro e w29 ⟨rfl, hb⟩
         refine ⟨_, rfl, ?_⟩
         replace BK299 := sqb BK299 hb
         replace HB := sqs HB hb
         (try clear hb)
         refine hK.out _ _ sqz (fun hHeld => ?_)
         clear hK K
         refine sqnm ?_
         refine sqp HT_ 11 53 ?_
         refine done_ (done_of HT_.out (by kernel_rfl)) ?_
         try go_wp2
         go_roundg k4
         case measure => have := HJ2.out; have := HK2.out; have := HK3.out; have := HK4.out; omega
         case rel => exact ⟨(wrap64 (x7_4 + 1)), (by first | rfl | (simp; done) | (simp [*]; done)), H', ⟨by have := HJ2.out; have := HK2.out; have := HK3.out; have := HK4.out; omega⟩, sqk BK299, sqh HB⟩

end Go.Proofs.Ytkekcenlleebeaa.PFnGapsClose
