/- Functions of the program as plain Lean functions, and that calls of them come to what these tell. Conditions: those in each law. -/
import Derived.Test.YtnmgckdgmplddaaSq
import Derived.Test.YtnmgckdgmplddaaDFnExactAbsHas
import Derived.Test.YtnmgckdgmplddaaQFnExactAbsHasx0
import Derived.Test.YtnmgckdgmplddaaQFnExactAbsHasx19
namespace Go.Proofs.Ytnmgckdgmplddaa.PFnExactAbsHas
open Go.RowKit Go.Proofs.Ytnmgckdgmplddaa.Sq Go.Proofs.YtnmgckdgmplddaaW.PrintWords Go.Proofs.YtnmgckdgmplddaaW.PrintLast Go.Proofs.YtnmgckdgmplddaaW.PrintMore
attribute [local go_sem] max2_int min2_int max_two min_two max_three min_three max_four min_four   -- for this text's walks alone
set_option linter.unusedVariables false
set_option linter.unusedSimpArgs false

/-! ### impl_GapsOk: function 59 -/
def impl_GapsOk.T6 : Bool × List (List Nat × List Nat) := (true, [([], []), ([0], [0]), ([], []), ([], []), ([], []), ([2, 3, 4], [2, 3, 4]), ([1, 5], [1, 5]), ([6], [6]), ([7], [7])])
def impl_GapsOk.B6 : List Nat := [0, 1, 0, 0, 0, 28, 63, 127, 255]
theorem impl_GapsOk.tab6 : rtab .any (opsOf Try.f59 6) = impl_GapsOk.T6 := by kernel_rfl
theorem impl_GapsOk.bits6 : waitsOk impl_GapsOk.T6.2 impl_GapsOk.B6 = true := by kernel_rfl
set_option maxHeartbeats 8000000 in
set_option maxRecDepth 100000 in
theorem impl_GapsOk.calls (k : Nat) (a0_0 : Int) (A0_1 : Option Addr) (c0_1 : Nat) (l0_1 : List Int) (r : Bool) (w : World) (hr0_1 : Kd.C (Kd.int .i64) w A0_1 l0_1.length l0_1) (hc0_1 : l0_1.length ≤ c0_1) (h : impl_GapsOk.f k a0_0 l0_1 = some r) :
  Calls Try.prog 59 #[.agg #[.int .i64 a0_0, .slice A0_1 l0_1.length c0_1]] w fun e w' => e = .returned (.bool r) ∧ Below w.heap.size w w' := by
 have hu37 := Try.underlying37
 have HR0_1 := Aside0.mk hr0_1
 have HC0_1 := Aside0.mk hc0_1
 clear hr0_1 hc0_1
 have HB := Aside0.mk (Below.refl w.heap.size w)
 have H := h
 unfold impl_GapsOk.f at H
 clear h
 have HC2 := Aside0.mk H
 clear H
 go_enter Try.func59, Try.ntmps59
 go_upto_region 1 with (first | ((with_reducible refine gate_dst (N := 1) rfl ?_); (try (refine gate_guard (by rfl) ?_; dsimp only)); refine sqx 1 #[.int .i64 a0_0, .slice A0_1 l0_1.length c0_1] 37 ?_; intro gb407 hg w3 hbox hb; have BK407 := Aside0.mk hbox; have GW407 := sqg HB hg; have GE407 := sqg HB hg; replace HB := sqs HB hb; clear hb hbox hg))
 (try simp only [Act.put, List.setIfInBounds_toArray, List.set_cons_zero, List.set_cons_succ])
 go_cut [26] (fun v26 wc => ∃ (kq : Nat) (x26_1 : Bool), v26 = .bool x26_1 ∧ Aside0 (impl_GapsOk.j0 kq x26_1 a0_0 l0_1 = some r) ∧ Aside0 (kq ≤ k) ∧ Aside0 (wc.heap[gb407]? = some (.cells #[.int .i64 a0_0, (.slice A0_1 l0_1.length c0_1)] 37 (0, 0))) ∧ Aside0 (Below w.heap.size w wc))
 case first =>
  have H := HC2.out
  clear HC2
  replace H := sqj H
  rcases H with ⟨c4, H⟩ | ⟨c4, H⟩
  ·have c4b0 := decide_eq_true c4
   clear c4
   (first | rw [c4b0] | (simp only [i64_w, i32_w]; rw [c4b0]) | skip)
   have H' := Aside0.mk H
   clear H
   obtain ⟨hcz5_0, hcz5_1, hfz5_0, hfz5_1⟩ := sqc2 BK407
   go_wp2
   go_meet
   case rel => exact ⟨_, (true), (by first | rfl | (simp; done) | (simp [*]; done)), H', ⟨by first | omega | exact Nat.le_refl _⟩, sqk BK407, sqh HB⟩
  have c4b0 := decide_eq_false c4
  clear c4
  (first | rw [c4b0] | (simp only [i64_w, i32_w]; rw [c4b0]) | skip)
  replace H := sqj H
  rcases H with ⟨c6, H⟩ | ⟨c6, H⟩
  ·have c6b0 : decide (12 < a0_0) = true := decide_eq_true c6
   clear c6
   have H' := Aside0.mk H
   clear H
   obtain ⟨hcz7_0, hcz7_1, hfz7_0, hfz7_1⟩ := sqc2 BK407
   go_wp2
   go_meet
   case rel => exact ⟨_, (true), (by first | rfl | (simp; done) | (simp [*]; done)), H', ⟨by first | omega | exact Nat.le_refl _⟩, sqk BK407, sqh HB⟩
  have c6b0 : decide (12 < a0_0) = false := decide_eq_false c6
  clear c6
  have H' := Aside0.mk H
  clear H
  obtain ⟨hcz8_0, hcz8_1, hfz8_0, hfz8_1⟩ := sqc2 BK407
  go_wp2
  go_meet
  case rel => exact ⟨_, (((l0_1.length : Int) != (wrap64 ((wrap64 (a0_0 + 1)) * (wrap64 (a0_0 + 1)))))), (by first | rfl | (simp; done) | (simp [*]; done)), H', ⟨by first | omega | exact Nat.le_refl _⟩, sqk BK407, sqh HB⟩
 case rest =>
  clear HC2
  obtain ⟨kq, x26_1, rfl, HA, HJ1, BK407, HB⟩ := hcut
  cases kq with
  | zero => exact absurd HA.out (by simp [impl_GapsOk.j0])
  | succ kj1 =>
   have H := HA.out
   clear HA
   simp only [impl_GapsOk.j0] at H
   by_cases c9 : x26_1 = true
   ·subst c9
    have H1 : (some false) = some r := by rw [if_pos rfl] at H; exact H
    clear H
    have H := H1
    clear H1
    obtain rfl := Option.some.inj H
    go_wp2
    go_ret
    exact sqe HB
   replace c9 := Bool.eq_false_iff.mpr c9
   subst c9
   have H1 : (impl_GapsOk.l0 kj1 (wrap64 (a0_0 + 1)) 0 a0_0 l0_1) = some r := by rw [if_neg (show ¬ (false = true) by decide)] at H; exact H
   clear H
   have H := H1
   clear H1
   have H' := Aside0.mk H
   clear H
   obtain ⟨hcz10_0, hcz10_1, hfz10_0, hfz10_1⟩ := sqc2 BK407
   go_wp2
   go_loopg [30] kj1 (fun kq v30 w' => ∃ (x30_2 : Int), v30 = .int .i64 x30_2 ∧ Aside0 (impl_GapsOk.l0 kq (wrap64 (a0_0 + 1)) x30_2 a0_0 l0_1 = some r) ∧ Aside0 (kq ≤ kj1) ∧ Aside0 (w'.heap[gb407]? = some (.cells #[.int .i64 a0_0, (.slice A0_1 l0_1.length c0_1)] 37 (0, 0))) ∧ Aside0 (Below w.heap.size w w'))
   case atStart => exact ⟨(0), (by first | rfl | (simp; done) | (simp [*]; done)), H', ⟨Nat.le_refl _⟩, sqk BK407, sqh HB⟩
   case round =>
    clear H'
    obtain ⟨x30_2, rfl, HA, HK2, BK407, HB⟩ := hrel
    cases gk with
    | zero => exact absurd HA.out (by simp [impl_GapsOk.l0])
    | succ k2 =>
     have H := HA.out
     clear HA
     simp only [impl_GapsOk.l0] at H
     replace H := sqi H
     rcases H with ⟨c11, H⟩ | ⟨c11, H⟩
     ·have c11b0 := decide_eq_false c11
      clear c11
      have H' := Aside0.mk H
      clear H
      obtain ⟨hcz20_0, hcz20_1, hfz20_0, hfz20_1⟩ := sqc2 BK407
      go_wp2
      go_loopg [46] k2 (fun kq v46 w' => ∃ (x46_3 : Int), v46 = .int .i64 x46_3 ∧ Aside0 (impl_GapsOk.l1 kq l0_1 (l0_1.length : Int) x46_3 = some r) ∧ Aside0 (kq ≤ k2) ∧ Aside0 (w'.heap[gb407]? = some (.cells #[.int .i64 a0_0, (.slice A0_1 l0_1.length c0_1)] 37 (0, 0))) ∧ Aside0 (Below w.heap.size w w'))
      case atStart => exact ⟨(0), (by first | rfl | (simp; done) | (simp [*]; done)), H', ⟨Nat.le_refl _⟩, sqk BK407, sqh HB⟩
      case round =>
       clear H'
       obtain ⟨x46_3, rfl, HA, HK3, BK407, HB⟩ := hrel
       cases gk with
       | zero => exact absurd HA.out (by simp [impl_GapsOk.l1])
       | succ k3 =>
        have H := HA.out
        clear HA
        simp only [impl_GapsOk.l1] at H
        replace H := sqi H
        rcases H with ⟨c21, H⟩ | ⟨c21, H⟩
        ·have c21b0 := decide_eq_false c21
         clear c21
         obtain rfl := Option.some.inj H
         go_wp2
         go_ret
         exact sqe HB
        have c21b0 := decide_eq_true c21
        clear c21
        replace H := sqi H
        rcases H with ⟨c22, H⟩ | ⟨c22, H⟩
        ·exact absurd H (by simp)
        have c22b0 := decide_eq_true c22
        clear c22
        replace H := sqi H
        rcases H with ⟨c23, H⟩ | ⟨c23, H⟩
        ·exact absurd H (by simp)
        have c23b0 := decide_eq_true c23
        clear c23
        replace H := sqj H
        rcases H with ⟨c24, H⟩ | ⟨c24, H⟩
        ·have c24b0 := decide_eq_true c24
         clear c24
         obtain rfl := Option.some.inj H
         have p410 : 0 ≤ (x46_3 : Int) := sqd
         have q410 : x46_3 < (l0_1.length : Int) := sqd
         obtain ⟨ad410, e410, hx410_0⟩ := Kd.at_int HR0_1.out x46_3 p410 q410
         cases e410
         replace hx410_0 := sqa HB hx410_0
         replace p410 := eq_true p410
         replace q410 := eq_true q410
         go_wp2
         go_ret
         exact sqe HB
        have c24b0 := decide_eq_false c24
        clear c24
        replace H := sqj H
        rcases H with ⟨c25, H⟩ | ⟨c25, H⟩
        ·have c25b0 : decide (1099511627776 < (rd l0_1 x46_3)) = true := decide_eq_true c25
         clear c25
         obtain rfl := Option.some.inj H
         have p410 : 0 ≤ (x46_3 : Int) := sqd
         have q410 : x46_3 < (l0_1.length : Int) := sqd
         obtain ⟨ad410, e410, hx410_0⟩ := Kd.at_int HR0_1.out x46_3 p410 q410
         cases e410
         replace hx410_0 := sqa HB hx410_0
         replace p410 := eq_true p410
         replace q410 := eq_true q410
         go_wp2
         go_ret
         exact sqe HB
        have c25b0 : decide (1099511627776 < (rd l0_1 x46_3)) = false := decide_eq_false c25
        clear c25
        have H' := Aside0.mk H
        clear H
        have p410 : 0 ≤ (x46_3 : Int) := sqd
        have q410 : x46_3 < (l0_1.length : Int) := sqd
        obtain ⟨ad410, e410, hx410_0⟩ := Kd.at_int HR0_1.out x46_3 p410 q410
        cases e410
        replace hx410_0 := sqa HB hx410_0
        replace p410 := eq_true p410
        replace q410 := eq_true q410
        go_wp2
        go_roundg k3
        case measure => have := HJ1.out; have := HK2.out; have := HK3.out; omega
        case rel => exact ⟨(wrap64 (x46_3 + 1)), (by first | rfl | (simp; done) | (simp [*]; done)), H', ⟨by have := HJ1.out; have := HK2.out; have := HK3.out; omega⟩, sqk BK407, sqh HB⟩
     have c11b0 := decide_eq_true c11
     clear c11
     replace H := Option.bind_eq_some_iff.mp H
     obtain ⟨t408, A120, H⟩ := H
     try dsimp only at H
     have A12 := Aside0.mk A120
     clear A120
     replace H := sqi H
     rcases H with ⟨c13, H⟩ | ⟨c13, H⟩
     ·exact absurd H (by simp)
     have c13b0 := decide_eq_true c13
     clear c13
     replace H := sqi H
     rcases H with ⟨c14, H⟩ | ⟨c14, H⟩
     ·exact absurd H (by simp)
     have c14b0 := decide_eq_true c14
     clear c14
     replace H := sqi H
     rcases H with ⟨c15, H⟩ | ⟨c15, H⟩
     ·have c15b0 : ((rd l0_1 t408) == 0) = false := beq_eq_false_iff_ne.mpr c15
      have c15b1 : ((rd l0_1 t408) != 0) = true := bne_iff_ne.mpr c15
      obtain rfl := Option.some.inj H
      try go_wp2
      replace BK407 := Aside0.mk (blk_drew BK407.out)
      replace HB := Aside0.mk (below_drew1 HB.out)
      have p409 : 0 ≤ (t408 : Int) := sqd
      have q409 : t408 < (l0_1.length : Int) := sqd
      obtain ⟨ad409, e409, hx409_0⟩ := Kd.at_int HR0_1.out t408 p409 q409
      have hw409_0 := hx409_0
      cases e409
      replace hx409_0 := sqa HB hx409_0
      replace p409 := eq_true p409
      replace q409 := eq_true q409
      refine start_ (n := 9) (S := fun w' => w'.cell? ⟨gb407, 0, none⟩ = some (.int .i64 a0_0) ∧ w'.cell? ⟨gb407, 1, none⟩ = some (.slice (some ad409) l0_1.length c0_1) ∧ w'.cell? (ad409.add (t408).toNat) = some (.int .i64 (rd l0_1 t408))) (ds := []) #[false, false, false, false, false, false, false, false, false] (by kernel_rfl) rfl rfl ⟨(blk_cell BK407.out 0).trans rfl, (blk_cell BK407.out 1).trans rfl, (sqa HB hw409_0 :)⟩ (fun hHeld => ?_); refine with_tabW impl_GapsOk.tab6 impl_GapsOk.bits6 (fun HT_ HW_ => ?_)
      generalize wr.drew = w18 at BK407 HB hx409_0 hHeld ⊢
      refine sqp HT_ 0 33 ?_
      refine sqp HT_ 3 36 ?_
      refine sqp HT_ 4 37 ?_
      refine sqw HT_ HW_ 1 34 hHeld ?_
      refine sqw HT_ HW_ 2 35 hHeld ?_
      refine sqo HT_ 5 38 (fun K hK => ?_)
      refine sqG Try.func65 #[.agg #[.int .i64 a0_0, .slice (some ad409) l0_1.length c0_1], .int .i64 x30_2, .int .i64 x30_2] ?_
      with_reducible refine (impl_Gaps_at.calls a0_0 _ _ l0_1 x30_2 x30_2 t408 _ ?side1 ?side2 A12.out).mono ?_
      (case side1 => exact sqC (Kd.C_below HR0_1.out HB.out))
      (case side2 => exact HC0_1.out)
      rintro e w19 ⟨rfl, hb⟩
      refine ⟨_, rfl, ?_⟩
      replace BK407 := sqb BK407 hb
      replace HB := sqs HB hb
      (try clear hb)
      refine hK.out _ _ ⟨(blk_cell BK407.out 0).trans rfl, (blk_cell BK407.out 1).trans rfl, (sqa HB hw409_0 :)⟩ (fun hHeld => ?_)
      clear hK K
      refine sqnm ?_
      refine sqp HT_ 6 39 ?_
      refine sqw HT_ HW_ 7 40 hHeld ?_
      refine sqp HT_ 8 41 ?_
      refine done_ (done_of HT_.out (by kernel_rfl)) ?_
      try go_wp2
      go_ret
      exact sqe HB
     have c15b0 : ((rd l0_1 t408) == 0) = true := beq_iff_eq.mpr c15
     have c15b1 : ((rd l0_1 t408) != 0) = false := bne_eq_false_iff_eq.mpr c15
     clear c15
     have H' := Aside0.mk H
     clear H
     try go_wp2
     replace BK407 := Aside0.mk (blk_drew BK407.out)
     replace HB := Aside0.mk (below_drew1 HB.out)
     have p409 : 0 ≤ (t408 : Int) := sqd
     have q409 : t408 < (l0_1.length : Int) := sqd
     obtain ⟨ad409, e409, hx409_0⟩ := Kd.at_int HR0_1.out t408 p409 q409
     have hw409_0 := hx409_0
     cases e409
     replace hx409_0 := sqa HB hx409_0
     replace p409 := eq_true p409
     replace q409 := eq_true q409
     refine start_ (n := 9) (S := fun w' => w'.cell? ⟨gb407, 0, none⟩ = some (.int .i64 a0_0) ∧ w'.cell? ⟨gb407, 1, none⟩ = some (.slice (some ad409) l0_1.length c0_1) ∧ w'.cell? (ad409.add (t408).toNat) = some (.int .i64 (rd l0_1 t408))) (ds := []) #[false, false, false, false, false, false, false, false, false] (by kernel_rfl) rfl rfl ⟨(blk_cell BK407.out 0).trans rfl, (blk_cell BK407.out 1).trans rfl, (sqa HB hw409_0 :)⟩ (fun hHeld => ?_); refine with_tabW impl_GapsOk.tab6 impl_GapsOk.bits6 (fun HT_ HW_ => ?_)
     generalize wr.drew = w16 at BK407 HB hx409_0 hHeld ⊢
     refine sqp HT_ 0 33 ?_
     refine sqp HT_ 3 36 ?_
     refine sqp HT_ 4 37 ?_
     refine sqw HT_ HW_ 1 34 hHeld ?_
     refine sqw HT_ HW_ 2 35 hHeld ?_
     refine sqo HT_ 5 38 (fun K hK => ?_)
     refine sqG Try.func65 #[.agg #[.int .i64 a0_0, .slice (some ad409) l0_1.length c0_1], .int .i64 x30_2, .int .i64 x30_2] ?_
     with_reducible refine (impl_Gaps_at.calls a0_0 _ _ l0_1 x30_2 x30_2 t408 _ ?side1 ?side2 A12.out).mono ?_
     (case side1 => exact sqC (Kd.C_below HR0_1.out HB.out))
     (case side2 => exact HC0_1.out)
     rintro e w17 ⟨rfl, hb⟩
     refine ⟨_, rfl, ?_⟩
     replace BK407 := sqb BK407 hb
     replace HB := sqs HB hb
     (try clear hb)
     refine hK.out _ _ ⟨(blk_cell BK407.out 0).trans rfl, (blk_cell BK407.out 1).trans rfl, (sqa HB hw409_0 :)⟩ (fun hHeld => ?_)
     clear hK K
     refine sqnm ?_
     refine sqp HT_ 6 39 ?_
     refine sqw HT_ HW_ 7 40 hHeld ?_
     refine sqp HT_ 8 41 ?_
     refine done_ (done_of HT_.out (by kernel_rfl)) ?_
     try go_wp2
     go_roundg k2
     case measure => have := HJ1.out; have := HK2.out; omega
     case rel => exact ⟨(wrap64 (x30_2 + 1)), (by first | rfl | (simp; done) | (simp [*]; done)), H', ⟨by have := HJ1.out; have := HK2.out; omega⟩, sqk BK407, sqh HB⟩

end Go.Proofs.Ytnmgckdgmplddaa.PFnExactAbsHas
