/- Functions of the program as plain Lean functions, and that calls of them come to what these tell. Conditions: those in each law. -/
import Derived.Test.YtnmgckdgmplddaaSq
import Derived.Test.YtnmgckdgmplddaaDFnExactAbsHas
import Derived.Test.YtnmgckdgmplddaaQFnExactAbsHasx0
import Derived.Test.YtnmgckdgmplddaaQFnExactAbsHasx3
import Derived.Test.YtnmgckdgmplddaaQFnExactAbsHasx9
import Derived.Test.YtnmgckdgmplddaaQFnExactAbsHasx10
import Derived.Test.YtnmgckdgmplddaaQFnExactAbsHasx12
namespace Go.Proofs.Ytnmgckdgmplddaa.PFnExactAbsHas
open Go.RowKit Go.Proofs.Ytnmgckdgmplddaa.Sq Go.Proofs.YtnmgckdgmplddaaW.PrintWords Go.Proofs.YtnmgckdgmplddaaW.PrintLast Go.Proofs.YtnmgckdgmplddaaW.PrintMore
attribute [local go_sem] max2_int min2_int max_two min_two max_three min_three max_four min_four   -- for this text's walks alone
set_option linter.unusedVariables false
set_option linter.unusedSimpArgs false

/-! ### spec_GapsHas: function 24 -/
def spec_GapsHas.T14 : Bool × List (List Nat × List Nat) := (true, [([], []), ([], []), ([0, 1], [0, 1]), ([], []), ([], []), ([3, 4, 2], [3, 4]), ([2, 5], [2, 5]), ([], []), ([], []), ([], []), ([7, 8, 9, 5], [7, 8, 9]), ([6, 10], [6, 10])])
def spec_GapsHas.B14 : List Nat := [0, 0, 3, 0, 0, 31, 63, 0, 0, 0, 959, 2047]
theorem spec_GapsHas.tab14 : rtab .any (opsOf Try.f24 14) = spec_GapsHas.T14 := by kernel_rfl
theorem spec_GapsHas.bits14 : waitsOk spec_GapsHas.T14.2 spec_GapsHas.B14 = true := by kernel_rfl
set_option maxHeartbeats 8000000 in
set_option maxRecDepth 100000 in
theorem spec_GapsHas.calls (k : Nat) (a0_0 : Int) (A0_1 : Option Addr) (c0_1 : Nat) (l0_1 : List Int) (A1 : Option Addr) (c1 : Nat) (l1 : List Int) (r : Bool) (w : World) (hr0_1 : Kd.C (Kd.int .i64) w A0_1 l0_1.length l0_1) (hc0_1 : l0_1.length ≤ c0_1) (hr1 : Kd.C (Kd.int .i64) w A1 l1.length l1) (hc1 : l1.length ≤ c1) (h : spec_GapsHas.f k a0_0 l0_1 l1 = some r) :
  Calls Try.prog 24 #[.agg #[.int .i64 a0_0, .slice A0_1 l0_1.length c0_1], .slice A1 l1.length c1] w fun e w' => e = .returned (.bool r) ∧ Below w.heap.size w w' := by
 have hu37 := Try.underlying37
 have HR0_1 := Aside0.mk hr0_1
 have HC0_1 := Aside0.mk hc0_1
 clear hr0_1 hc0_1
 have HR1 := Aside0.mk hr1
 have HC1 := Aside0.mk hc1
 clear hr1 hc1
 have HB := Aside0.mk (Below.refl w.heap.size w)
 have H := h
 unfold spec_GapsHas.f at H
 clear h
 have HC3 := Aside0.mk H
 clear H
 go_enter Try.func24, Try.ntmps24
 go_upto_region 1 with (first | ((with_reducible refine gate_dst (N := 2) rfl ?_); (try (refine gate_guard (by rfl) ?_; dsimp only)); refine sqx 2 #[.int .i64 a0_0, .slice A0_1 l0_1.length c0_1] 37 ?_; intro gb235 hg w4 hbox hb; have BK235 := Aside0.mk hbox; have GW235 := sqg HB hg; have GE235 := sqg HB hg; replace HB := sqs HB hb; clear hb hbox hg))
 (try simp only [Act.put, List.setIfInBounds_toArray, List.set_cons_zero, List.set_cons_succ])
 go_cut [17] (fun v17 wc => ∃ (kq : Nat) (x17_2 : Bool), v17 = .bool x17_2 ∧ Aside0 (spec_GapsHas.j0 kq l1 x17_2 a0_0 l0_1 = some r) ∧ Aside0 (kq ≤ k) ∧ Aside0 (wc.heap[gb235]? = some (.cells #[.int .i64 a0_0, (.slice A0_1 l0_1.length c0_1)] 37 (0, 0))) ∧ Aside0 (Below w.heap.size w wc))
 case first =>
  have H := HC3.out
  clear HC3
  replace H := Option.bind_eq_some_iff.mp H
  obtain ⟨t236, A50, H⟩ := H
  try dsimp only at H
  have A5 := Aside0.mk A50
  clear A50
  rcases sqI (t236 = true) with c6 | c6
  ·replace c6 := Bool.eq_false_iff.mpr c6
   subst c6
   have H1 : (spec_GapsHas.j0 k l1 true a0_0 l0_1) = some r := by rw [if_neg (show ¬ (false = true) by decide)] at H; exact H
   clear H
   have H := H1
   clear H1
   have H' := Aside0.mk H
   clear H
   obtain ⟨hcz10_0, hcz10_1, hfz10_0, hfz10_1⟩ := sqc2 BK235
   go_wp2_with (first | ((with_reducible refine gate_callee (f := 43) rfl ?_); refine sqL (some 9) Try.func43 #[.agg #[.int .i64 a0_0, .slice A0_1 l0_1.length c0_1]] ?_; (with_reducible refine (spec_GapsOk.calls k a0_0 _ _ l0_1 false _ ?side1 ?side2 A5.out).mono ?_); (case side1 => exact sqC (Kd.C_below HR0_1.out HB.out)); (case side2 => exact HC0_1.out); rintro e w11 ⟨rfl, hb⟩; refine ⟨_, rfl, ?_⟩; replace BK235 := sqb BK235 hb; replace HB := sqs HB hb; (try clear hb)))
   go_meet
   case rel => exact ⟨_, (true), (by first | rfl | (simp; done) | (simp [*]; done)), H', ⟨by first | omega | exact Nat.le_refl _⟩, sqk BK235, sqh HB⟩
  subst c6
  have H1 : (spec_GapsHas.j0 k l1 ((l1.length : Int) != a0_0) a0_0 l0_1) = some r := by rw [if_pos rfl] at H; exact H
  clear H
  have H := H1
  clear H1
  have H' := Aside0.mk H
  clear H
  obtain ⟨hcz7_0, hcz7_1, hfz7_0, hfz7_1⟩ := sqc2 BK235
  go_wp2_with (first | ((with_reducible refine gate_callee (f := 43) rfl ?_); refine sqL (some 9) Try.func43 #[.agg #[.int .i64 a0_0, .slice A0_1 l0_1.length c0_1]] ?_; (with_reducible refine (spec_GapsOk.calls k a0_0 _ _ l0_1 true _ ?side1 ?side2 A5.out).mono ?_); (case side1 => exact sqC (Kd.C_below HR0_1.out HB.out)); (case side2 => exact HC0_1.out); rintro e w8 ⟨rfl, hb⟩; refine ⟨_, rfl, ?_⟩; replace BK235 := sqb BK235 hb; replace HB := sqs HB hb; (try clear hb); obtain ⟨hcz9_0, hcz9_1, hfz9_0, hfz9_1⟩ := sqc2 BK235))
  go_meet
  case rel => exact ⟨_, (((l1.length : Int) != a0_0)), (by first | rfl | (simp; done) | (simp [*]; done)), H', ⟨by first | omega | exact Nat.le_refl _⟩, sqk BK235, sqh HB⟩
 case rest =>
  clear HC3
  obtain ⟨kq, x17_2, rfl, HA, HJ2, BK235, HB⟩ := hcut
  cases kq with
  | zero => exact absurd HA.out (by simp [spec_GapsHas.j0])
  | succ kj2 =>
   have H := HA.out
   clear HA
   simp only [spec_GapsHas.j0] at H
   by_cases c12 : x17_2 = true
   ·subst c12
    have H1 : (some false) = some r := by rw [if_pos rfl] at H; exact H
    clear H
    have H := H1
    clear H1
    obtain rfl := Option.some.inj H
    go_wp2
    go_ret
    exact sqe HB
   replace c12 := Bool.eq_false_iff.mpr c12
   subst c12
   have H1 : (spec_GapsHas.l0 kj2 l1 0 a0_0 l0_1) = some r := by rw [if_neg (show ¬ (false = true) by decide)] at H; exact H
   clear H
   have H := H1
   clear H1
   have H' := Aside0.mk H
   clear H
   go_wp2
   go_loopg [5] kj2 (fun kq v5 w' => ∃ (x5_2 : Int), v5 = .int .i64 x5_2 ∧ Aside0 (spec_GapsHas.l0 kq l1 x5_2 a0_0 l0_1 = some r) ∧ Aside0 (kq ≤ kj2) ∧ Aside0 (w'.heap[gb235]? = some (.cells #[.int .i64 a0_0, (.slice A0_1 l0_1.length c0_1)] 37 (0, 0))) ∧ Aside0 (Below w.heap.size w w'))
   case atStart => exact ⟨(0), (by first | rfl | (simp; done) | (simp [*]; done)), H', ⟨Nat.le_refl _⟩, sqk BK235, sqh HB⟩
   case round =>
    clear H'
    obtain ⟨x5_2, rfl, HA, HK2, BK235, HB⟩ := hrel
    cases gk with
    | zero => exact absurd HA.out (by simp [spec_GapsHas.l0])
    | succ k2 =>
     have H := HA.out
     clear HA
     simp only [spec_GapsHas.l0] at H
     replace H := sqj H
     rcases H with ⟨c13, H⟩ | ⟨c13, H⟩
     ·have c13b0 := decide_eq_true c13
      clear c13
      replace H := sqi H
      rcases H with ⟨c14, H⟩ | ⟨c14, H⟩
      ·exact absurd H (by simp)
      have c14b0 := decide_eq_true c14
      clear c14
      replace H := Option.bind_eq_some_iff.mp H
      obtain ⟨t238, A150, H⟩ := H
      try dsimp only at H
      have A15 := Aside0.mk A150
      clear A150
      rcases sqI (t238 = true) with c16 | c16
      ·replace c16 := Bool.eq_false_iff.mpr c16
       subst c16
       have H1 : (some false) = some r := by rw [if_neg (show ¬ (false = true) by decide)] at H; exact H
       clear H
       have H := H1
       clear H1
       obtain rfl := Option.some.inj H
       have p237 : 0 ≤ (x5_2 : Int) := sqd
       have q237 : x5_2 < (l1.length : Int) := sqd
       obtain ⟨ad237, e237, hx237_0⟩ := Kd.at_int HR1.out x5_2 p237 q237
       cases e237
       replace hx237_0 := sqa HB hx237_0
       replace p237 := eq_true p237
       replace q237 := eq_true q237
       go_wp2_with (first | ((with_reducible refine gate_callee (f := 51) rfl ?_); refine sqL (some 28) Try.func51 #[.int .i64 (rd l1 x5_2)] ?_; (with_reducible refine (spec_NumOk.calls (rd l1 x5_2) false _ A15.out).mono ?_); rintro e w' ⟨rfl, ⟨nd, rfl⟩⟩; refine ⟨_, rfl, ?_⟩))
       go_ret
       exact sqe HB
      subst c16
      have H1 : (spec_GapsHas.l0 k2 l1 (wrap64 (x5_2 + 1)) a0_0 l0_1) = some r := by rw [if_pos rfl] at H; exact H
      clear H
      have H := H1
      clear H1
      have H' := Aside0.mk H
      clear H
      have p237 : 0 ≤ (x5_2 : Int) := sqd
      have q237 : x5_2 < (l1.length : Int) := sqd
      obtain ⟨ad237, e237, hx237_0⟩ := Kd.at_int HR1.out x5_2 p237 q237
      cases e237
      replace hx237_0 := sqa HB hx237_0
      replace p237 := eq_true p237
      replace q237 := eq_true q237
      go_wp2_with (first | ((with_reducible refine gate_callee (f := 51) rfl ?_); refine sqL (some 28) Try.func51 #[.int .i64 (rd l1 x5_2)] ?_; (with_reducible refine (spec_NumOk.calls (rd l1 x5_2) true _ A15.out).mono ?_); rintro e w' ⟨rfl, ⟨nd, rfl⟩⟩; refine ⟨_, rfl, ?_⟩))
      go_roundg k2
      case measure => have := HJ2.out; have := HK2.out; omega
      case rel => exact ⟨(wrap64 (x5_2 + 1)), (by first | rfl | (simp; done) | (simp [*]; done)), H', ⟨by have := HJ2.out; have := HK2.out; omega⟩, sqk BK235, sqh HB⟩
     have c13b0 := decide_eq_false c13
     clear c13
     have H' := Aside0.mk H
     clear H
     go_wp2
     go_loopg [6] k2 (fun kq v6 w' => ∃ (x6_3 : Int), v6 = .int .i64 x6_3 ∧ Aside0 (spec_GapsHas.l1 kq l1 x6_3 a0_0 l0_1 = some r) ∧ Aside0 (kq ≤ k2) ∧ Aside0 (w'.heap[gb235]? = some (.cells #[.int .i64 a0_0, (.slice A0_1 l0_1.length c0_1)] 37 (0, 0))) ∧ Aside0 (Below w.heap.size w w'))
     case atStart => exact ⟨(0), (by first | rfl | (simp; done) | (simp [*]; done)), H', ⟨Nat.le_refl _⟩, sqk BK235, sqh HB⟩
     case round =>
      clear H'
      obtain ⟨x6_3, rfl, HA, HK3, BK235, HB⟩ := hrel
      cases gk with
      | zero => exact absurd HA.out (by simp [spec_GapsHas.l1])
      | succ k3 =>
       have H := HA.out
       clear HA
       simp only [spec_GapsHas.l1] at H
       replace H := sqi H
       rcases H with ⟨c17, H⟩ | ⟨c17, H⟩
       ·have c17b0 := decide_eq_false c17
        clear c17
        obtain rfl := Option.some.inj H
        obtain ⟨hcz31_0, hcz31_1, hfz31_0, hfz31_1⟩ := sqc2 BK235
        go_wp2
        go_ret
        exact sqe HB
       have c17b0 := decide_eq_true c17
       clear c17
       have H' := Aside0.mk H
       clear H
       obtain ⟨hcz18_0, hcz18_1, hfz18_0, hfz18_1⟩ := sqc2 BK235
       go_wp2
       go_loopg [7] k3 (fun kq v7 w' => ∃ (x7_4 : Int), v7 = .int .i64 x7_4 ∧ Aside0 (spec_GapsHas.l2 kq l1 x6_3 x7_4 a0_0 l0_1 = some r) ∧ Aside0 (kq ≤ k3) ∧ Aside0 (w'.heap[gb235]? = some (.cells #[.int .i64 a0_0, (.slice A0_1 l0_1.length c0_1)] 37 (0, 0))) ∧ Aside0 (Below w.heap.size w w'))
       case atStart => exact ⟨(0), (by first | rfl | (simp; done) | (simp [*]; done)), H', ⟨Nat.le_refl _⟩, sqk BK235, sqh HB⟩
       case round =>
        clear H'
        obtain ⟨x7_4, rfl, HA, HK4, BK235, HB⟩ := hrel
        cases gk with
        | zero => exact absurd HA.out (by simp [spec_GapsHas.l2])
        | succ k4 =>
         have H := HA.out
         clear HA
         simp only [spec_GapsHas.l2] at H
         replace H := sqi H
         rcases H with ⟨c19, H⟩ | ⟨c19, H⟩
         ·have c19b0 := decide_eq_false c19
          clear c19
          have H' := Aside0.mk H
          clear H
          obtain ⟨hcz30_0, hcz30_1, hfz30_0, hfz30_1⟩ := sqc2 BK235
          go_wp2
          go_roundg k4
          case measure => have := HJ2.out; have := HK2.out; have := HK3.out; have := HK4.out; omega
          case rel => exact ⟨(wrap64 (x6_3 + 1)), (by first | rfl | (simp; done) | (simp [*]; done)), H', ⟨by have := HJ2.out; have := HK2.out; have := HK3.out; have := HK4.out; omega⟩, sqk BK235, sqh HB⟩
         have c19b0 := decide_eq_true c19
         clear c19
         replace H := Option.bind_eq_some_iff.mp H
         obtain ⟨t239, A200, H⟩ := H
         try dsimp only at H
         have A20 := Aside0.mk A200
         clear A200
         replace H := Option.bind_eq_some_iff.mp H
         obtain ⟨t240, A210, H⟩ := H
         try dsimp only at H
         have A21 := Aside0.mk A210
         clear A210
         replace H := Option.bind_eq_some_iff.mp H
         obtain ⟨t241, A220, H⟩ := H
         try dsimp only at H
         have A22 := Aside0.mk A220
         clear A220
         replace H := sqj H
         rcases H with ⟨c23, H⟩ | ⟨c23, H⟩
         ·have c23b0 : decide (t241 < (wrap64 (t239 - t240))) = true := decide_eq_true c23
          clear c23
          obtain rfl := Option.some.inj H
          obtain ⟨hcz24_0, hcz24_1, hfz24_0, hfz24_1⟩ := sqc2 BK235
          try go_wp2
          replace BK235 := Aside0.mk (blk_drew BK235.out)
          replace HB := Aside0.mk (below_drew1 HB.out)
          refine start_ (n := 12) (S := fun w' => w'.cell? ⟨gb235, 0, none⟩ = some (.int .i64 a0_0) ∧ w'.cell? ⟨gb235, 1, none⟩ = some (.slice A0_1 l0_1.length c0_1)) (ds := []) #[false, false, false, false, false, false, false, false, false, false, false, false] (by kernel_rfl) rfl rfl sqz (fun hHeld => ?_); refine with_tabW spec_GapsHas.tab14 spec_GapsHas.bits14 (fun HT_ HW_ => ?_)
          generalize wr.drew = w25 at BK235 HB hHeld ⊢
          refine sqp HT_ 0 42 ?_
          refine sqp HT_ 1 43 ?_
          refine sqp HT_ 3 45 ?_
          refine sqp HT_ 4 46 ?_
          refine sqp HT_ 8 50 ?_
          refine sqp HT_ 9 51 ?_
          refine sqw HT_ HW_ 7 49 hHeld ?_
          refine sqo HT_ 2 44 (fun K hK => ?_)
          refine sqG Try.func52 #[.slice A1 l1.length c1, .int .i64 x6_3] ?_
          with_reducible refine (spec_l11Num.calls _ _ l1 x6_3 t239 _ ?side1 ?side2 A20.out).mono ?_
          (case side1 => exact sqC (Kd.C_below HR1.out HB.out))
          (case side2 => exact HC1.out)
          rintro e w' ⟨rfl, ⟨nd, rfl⟩⟩
          refine ⟨_, rfl, ?_⟩
          refine hK.out _ _ sqz (fun hHeld => ?_)
          clear hK K
          refine sqnm ?_
          refine sqo HT_ 5 47 (fun K hK => ?_)
          refine sqG Try.func52 #[.slice A1 l1.length c1, .int .i64 x7_4] ?_
          with_reducible refine (spec_l11Num.calls _ _ l1 x7_4 t240 _ ?side1 ?side2 A21.out).mono ?_
          (case side1 => exact sqC (Kd.C_below HR1.out (sqB HB)))
          (case side2 => exact HC1.out)
          rintro e w' ⟨rfl, ⟨nd, rfl⟩⟩
          refine ⟨_, rfl, ?_⟩
          refine hK.out _ _ sqz (fun hHeld => ?_)
          clear hK K
          refine sqnm ?_
          refine sqp HT_ 6 48 ?_
          refine sqo HT_ 10 52 (fun K hK => ?_)
          refine sqG Try.func53 #[.agg #[.int .i64 a0_0, .slice A0_1 l0_1.length c0_1], .int .i64 x6_3, .int .i64 x7_4] ?_
          with_reducible refine (spec_l11At.calls a0_0 _ _ l0_1 x6_3 x7_4 t241 _ ?side1 ?side2 A22.out).mono ?_
          (case side1 => exact sqC (Kd.C_below HR0_1.out (sqB HB)))
          (case side2 => exact HC0_1.out)
          rintro e w26 ⟨rfl, hb⟩
          refine ⟨_, rfl, ?_⟩
          replace BK235 := sqb BK235 hb
          replace HB := sqs HB hb
          (try clear hb)
          refine hK.out _ _ sqz (fun hHeld => ?_)
          clear hK K
          refine sqnm ?_
          refine sqp HT_ 11 53 ?_
          refine done_ (done_of HT_.out (by kernel_rfl)) ?_
          try go_wp2
          go_ret
          exact sqe HB
         have c23b0 : decide (t241 < (wrap64 (t239 - t240))) = false := decide_eq_false c23
         clear c23
         have H' := Aside0.mk H
         clear H
         obtain ⟨hcz27_0, hcz27_1, hfz27_0, hfz27_1⟩ := sqc2 BK235
         try go_wp2
         replace BK235 := Aside0.mk (blk_drew BK235.out)
         replace HB := Aside0.mk (below_drew1 HB.out)
         refine start_ (n := 12) (S := fun w' => w'.cell? ⟨gb235, 0, none⟩ = some (.int .i64 a0_0) ∧ w'.cell? ⟨gb235, 1, none⟩ = some (.slice A0_1 l0_1.length c0_1)) (ds := []) #[false, false, false, false, false, false, false, false, false, false, false, false] (by kernel_rfl) rfl rfl sqz (fun hHeld => ?_); refine with_tabW spec_GapsHas.tab14 spec_GapsHas.bits14 (fun HT_ HW_ => ?_)
         generalize wr.drew = w28 at BK235 HB hHeld ⊢
         refine sqp HT_ 0 42 ?_
         refine sqp HT_ 1 43 ?_
         refine sqp HT_ 3 45 ?_
         refine sqp HT_ 4 46 ?_
         refine sqp HT_ 8 50 ?_
         refine sqp HT_ 9 51 ?_
         refine sqw HT_ HW_ 7 49 hHeld ?_
         refine sqo HT_ 2 44 (fun K hK => ?_)
         refine sqG Try.func52 #[.slice A1 l1.length c1, .int .i64 x6_3] ?_
         with_reducible refine (spec_l11Num.calls _ _ l1 x6_3 t239 _ ?side1 ?side2 A20.out).mono ?_
         (case side1 => exact sqC (Kd.C_below HR1.out HB.out))
         (case side2 => exact HC1.out)
         rintro e w' ⟨rfl, ⟨nd, rfl⟩⟩
         refine ⟨_, rfl, ?_⟩
         refine hK.out _ _ sqz (fun hHeld => ?_)
         clear hK K
         refine sqnm ?_
         refine sqo HT_ 5 47 (fun K hK => ?_)
         refine sqG Try.func52 #[.slice A1 l1.length c1, .int .i64 x7_4] ?_
         with_reducible refine (spec_l11Num.calls _ _ l1 x7_4 t240 _ ?side1 ?side2 A21.out).mono ?_
         (case side1 => exact sqC (Kd.C_below HR1.out (sqB HB)))
         (case side2 => exact HC1.out)
         rintro e w' ⟨rfl, ⟨nd, rfl⟩⟩
         refine ⟨_, rfl, ?_⟩
         refine hK.out _ _ sqz (fun hHeld => ?_)
         clear hK K
         refine sqnm ?_
         refine sqp HT_ 6 48 ?_
         refine sqo HT_ 10 52 (fun K hK => ?_)
         refine sqG Try.func53 #[.agg #[.int .i64 a0_0, .slice A0_1 l0_1.length c0_1], .int .i64 x6_3, .int .i64 x7_4] ?_
         with_reducible refine (spec_l11At.calls a0_0 _ _ l0_1 x6_3 x7_4 t241 _ ?side1 ?side2 A22.out).mono ?_
         (case side1 => exact sqC (Kd.C_below HR0_1.out (sqB HB)))
         (case side2 => exact HC0_1.out)
         rintro e w29 ⟨rfl, hb⟩
         refine ⟨_, rfl, ?_⟩
         replace BK235 := sqb BK235 hb
         replace HB := sqs HB hb
         (try clear hb)
         refine hK.out _ _ sqz (fun hHeld => ?_)
         clear hK K
         refine sqnm ?_
         refine sqp HT_ 11 53 ?_
         refine done_ (done_of HT_.out (by kernel_rfl)) ?_
         try go_wp2
         go_roundg k4
         case measure => have := HJ2.out; have := HK2.out; have := HK3.out; have := HK4.out; omega
         case rel => exact ⟨(wrap64 (x7_4 + 1)), (by first | rfl | (simp; done) | (simp [*]; done)), H', ⟨by have := HJ2.out; have := HK2.out; have := HK3.out; have := HK4.out; omega⟩, sqk BK235, sqh HB⟩

end Go.Proofs.Ytnmgckdgmplddaa.PFnExactAbsHas
