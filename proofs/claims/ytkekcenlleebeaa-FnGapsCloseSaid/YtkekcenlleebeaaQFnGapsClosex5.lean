/- Functions of the program as plain Lean functions, and that calls of them come to what these tell. Conditions: those in each law. -/
import Derived.Test.YtkekcenlleebeaaSq
import Derived.Test.YtkekcenlleebeaaDFnGapsClose
import Derived.Test.YtkekcenlleebeaaQFnGapsClosex0
import Derived.Test.YtkekcenlleebeaaQFnGapsClosex4
namespace Go.Proofs.Ytkekcenlleebeaa.PFnGapsClose
open Go.RowKit Go.Proofs.Ytkekcenlleebeaa.Sq Go.Proofs.YtkekcenlleebeaaW.PrintWords Go.Proofs.YtkekcenlleebeaaW.PrintLast Go.Proofs.YtkekcenlleebeaaW.PrintMore
attribute [local go_sem] max2_int min2_int max_two min_two max_three min_three max_four min_four   -- for this text's walks alone
set_option linter.unusedVariables false
set_option linter.unusedSimpArgs false

/-! ### impl_GapsOk: function 31 -/
def impl_GapsOk.T6 : Bool × List (List Nat × List Nat) := (true, [([], []), ([0], [0]), ([], []), ([], []), ([], []), ([2, 3, 4], [2, 3, 4]), ([1, 5], [1, 5]), ([6], [6]), ([7], [7])])
def impl_GapsOk.B6 : List Nat := [0, 1, 0, 0, 0, 28, 63, 127, 255]
theorem impl_GapsOk.tab6 : rtab .any (opsOf Try.f31 6) = impl_GapsOk.T6 := by kernel_rfl
theorem impl_GapsOk.bits6 : waitsOk impl_GapsOk.T6.2 impl_GapsOk.B6 = true := by kernel_rfl
set_option maxHeartbeats 8000000 in
set_option maxRecDepth 100000 in
theorem impl_GapsOk.calls (k : Nat) (a0_0 : Int) (A0_1 : Option Addr) (c0_1 : Nat) (l0_1 : List Int) (r : Bool) (w : World) (hr0_1 : Kd.C (Kd.int .i64) w A0_1 l0_1.length l0_1) (hc0_1 : l0_1.length ≤ c0_1) (h : impl_GapsOk.f k a0_0 l0_1 = some r) :
  Calls Try.prog 31 #[.agg #[.int .i64 a0_0, .slice A0_1 l0_1.length c0_1]] w fun e w' => e = .returned (.bool r) ∧ Below w.heap.size w w' := by
 have hu41 := Try.underlying41
 have HR0_1 := Aside0.mk hr0_1
 have HC0_1 := Aside0.mk hc0_1
 clear hr0_1 hc0_1
 have HB := Aside0.mk (Below.refl w.heap.size w)
 have H : (if a0_0 < 0 then (impl_GapsOk.j0 k true a0_0 l0_1) else (if a0_0 > 12 then (impl_GapsOk.j0 k true a0_0 l0_1) else (impl_GapsOk.j0 k ((l0_1.length : Int) != (wrap64 ((wrap64 (a0_0 + 1)) * (wrap64 (a0_0 + 1))))) a0_0 l0_1))) = some r := h
 clear h
 have HC2 := Aside0.mk H
 clear H
 go_enter Try.func31, Try.ntmps31
 go_upto_region 1 with (first | ((with_reducible refine gate_dst (N := 1) rfl ?_); (try (refine gate_guard (by rfl) ?_; dsimp only)); refine sqx 1 #[.int .i64 a0_0, .slice A0_1 l0_1.length c0_1] 41 ?_; intro gb227 hg w3 hbox hb; have BK227 := Aside0.mk hbox; have GW227 := sqg HB hg; have GE227 := sqg HB hg; replace HB := sqs HB hb; clear hb hbox hg))
 (try simp only [Act.put, List.setIfInBounds_toArray, List.set_cons_zero, List.set_cons_succ])
 go_cut [26] (fun v26 wc => ∃ (kq : Nat) (x26_1 : Bool), v26 = .bool x26_1 ∧ Aside0 (impl_GapsOk.j0 kq x26_1 a0_0 l0_1 = some r) ∧ Aside0 (kq ≤ k) ∧ Aside0 (wc.heap[gb227]? = some (.cells #[.int .i64 a0_0, (.slice A0_1 l0_1.length c0_1)] 41 (0, 0))) ∧ Aside0 (Below w.heap.size w wc))
 case first =>
  have H := HC2.out
  clear HC2
  replace H := sqj H
  rcases H with ⟨c4, H⟩ | ⟨c4, H⟩
  ·have c4b0 := decide_eq_true c4
   clear c4
   (first | rw [c4b0] | (simp only [i64_w, i32_w]; rw [c4b0]) | skip)
   have H' := Aside0.mk H
   clear H
   obtain ⟨hcz5_0, hcz5_1, hfz5_0, hfz5_1⟩ := sqc2 BK227
   go_wp2
   go_meet
   case rel => exact ⟨_, (true), (by first | rfl | (simp; done) | (simp [*]; done)), H', ⟨by first | omega | exact Nat.le_refl _⟩, sqk BK227, sqh HB⟩
  have c4b0 := decide_eq_false c4
  clear c4
  (first | rw [c4b0] | (simp only [i64_w, i32_w]; rw [c4b0]) | skip)
  replace H := sqj H
  rcases H with ⟨c6, H⟩ | ⟨c6, H⟩
  ·have c6b0 : decide (12 < a0_0) = true := decide_eq_true c6
   clear c6
   have H' := Aside0.mk H
   clear H
   obtain ⟨hcz7_0, hcz7_1, hfz7_0, hfz7_1⟩ := sqc2 BK227
   go_wp2
   go_meet
   case rel => exact ⟨_, (true), (by first | rfl | (simp; done) | (simp [*]; done)), H', ⟨by first | omega | exact Nat.le_refl _⟩, sqk BK227, sqh HB⟩
  have c6b0 : decide (12 < a0_0) = false := decide_eq_false c6
  clear c6
  have H' := Aside0.mk H
  clear H
  obtain ⟨hcz8_0, hcz8_1, hfz8_0, hfz8_1⟩ := sqc2 BK227
  go_wp2
  go_meet
  case rel => exact ⟨_, (((l0_1.length : Int) != (wrap64 ((wrap64 (a0_0 + 1)) * (wrap64 (a0_0 + 1)))))), (by first | rfl | (simp; done) | (simp [*]; done)), H', ⟨by first | omega | exact Nat.le_refl _⟩, sqk BK227, sqh HB⟩
 case rest =>
  clear HC2
  obtain ⟨kq, x26_1, rfl, HA, HJ1, BK227, HB⟩ := hcut
  cases kq with
  | zero => exact absurd HA.out (by simp [impl_GapsOk.j0])
  | succ kj1 =>
   have H := HA.out
   clear HA
   simp only [impl_GapsOk.j0] at H
   by_cases c9 : x26_1 = true
   ·subst c9
    have H1 : (some false) = some r := by rw [if_pos rfl] at H; exact H
    clear H
    have H := H1
    clear H1
    obtain rfl := Option.some.inj H
    go_wp2
    go_ret
    exact sqe HB
   replace c9 := Bool.eq_false_iff.mpr c9
   subst c9
   have H1 : (impl_GapsOk.l0 kj1 (wrap64 (a0_0 + 1)) 0 a0_0 l0_1) = some r := by rw [if_neg (show ¬ (false = true) by decide)] at H; exact H
   clear H
   have H := H1
   clear H1
   have H' := Aside0.mk H
   clear H
   obtain ⟨hcz10_0, hcz10_1, hfz10_0, hfz10_1⟩ := sqc2 BK227
   go_wp2
   go_loopg [30] kj1 (fun kq v30 w' => ∃ (x30_2 : Int), v30 = .int .i64 x30_2 ∧ Aside0 (impl_GapsOk.l0 kq (wrap64 (a0_0 + 1)) x30_2 a0_0 l0_1 = some r) ∧ Aside0 (kq ≤ kj1) ∧ Aside0 (w'.heap[gb227]? = some (.cells #[.int .i64 a0_0, (.slice A0_1 l0_1.length c0_1)] 41 (0, 0))) ∧ Aside0 (Below w.heap.size w w'))
   case atStart => exact ⟨(0), (by first | rfl | (simp; done) | (simp [*]; done)), H', ⟨Nat.le_refl _⟩, sqk BK227, sqh HB⟩
   case round =>
    clear H'
    obtain ⟨x30_2, rfl, HA, HK2, BK227, HB⟩ := hrel
    cases gk with
    | zero => exact absurd HA.out (by simp [impl_GapsOk.l0])
    | succ k2 =>
     have H := HA.out
     clear HA
     simp only [impl_GapsOk.l0] at H
     replace H := sqi H
     rcases H with ⟨c11, H⟩ | ⟨c11, H⟩
     ·have c11b0 := decide_eq_false c11
      clear c11
      have H' := Aside0.mk H
      clear H
      obtain ⟨hcz20_0, hcz20_1, hfz20_0, hfz20_1⟩ := sqc2 BK227
      go_wp2
      go_loopg [46] k2 (fun kq v46 w' => ∃ (x46_3 : Int), v46 = .int .i64 x46_3 ∧ Aside0 (impl_GapsOk.l1 kq l0_1 (l0_1.length : Int) x46_3 = some r) ∧ Aside0 (kq ≤ k2) ∧ Aside0 (w'.heap[gb227]? = some (.cells #[.int .i64 a0_0, (.slice A0_1 l0_1.length c0_1)] 41 (0, 0))) ∧ Aside0 (Below w.heap.size w w'))
      case atStart => exact ⟨(0), (by first | rfl | (simp; done) | (simp [*]; done)), H', ⟨Nat.le_refl _⟩, sqk BK227, sqh HB⟩
      case round =>
       clear H'
       obtain ⟨x46_3, rfl, HA, HK3, BK227, HB⟩ := hrel
       cases gk with
       | zero => exact absurd HA.out (by simp [impl_GapsOk.l1])
       | succ k3 =>
        have H := HA.out
        clear HA
        simp only [impl_GapsOk.l1] at H
        replace H := sqi H
        rcases H with ⟨c21, H⟩ | ⟨c21, H⟩
        ·have c21b0 := decide_eq_false c21
         clear c21
         obtain rfl := Option.some.inj H
         go_wp2
         go_ret
         exact sqe HB
        have c21b0 := decide_eq_true c21
        clear c21
        replace H := sqi H
        rcases H with ⟨c22, H⟩ | ⟨c22, H⟩
        ·exact absurd H (by simp)
        have c22b0 := decide_eq_true c22
        clear c22
        replace H := sqi H
        rcases H with ⟨c23, H⟩ | ⟨c23, H⟩
        ·exact absurd H (by simp)
        have c23b0 := decide_eq_true c23
        clear c23
        replace H := sqj H
        rcases H with ⟨c24, H⟩ | ⟨c24, H⟩
        ·have c24b0 := decide_eq_true c24
         clear c24
         obtain rfl := Option.some.inj H
         have p230 : 0 ≤ (x46_3 : Int) := sqd
         have q230 : x46_3 < (l0_1.length : Int) := sqd
         obtain ⟨ad230, e230, hx230_0⟩ := Kd.at_int HR0_1.out x46_3 p230 q230
         cases e230
         replace hx230_0 := sqa HB hx230_0
         replace p230 := eq_true p230
         replace q230 := eq_true q230
         go_wp2
         go_ret
         exact sqe HB
        have c24b0 := decide_eq_false c24
        clear c24
        replace H := sqj H
        rcases H with ⟨c25, H⟩ | ⟨c25, H⟩
        ·have c25b0 : decide (1099511627776 < (rd l0_1 x46_3)) = true := decide_eq_true c25
         clear c25
         obtain rfl := Option.some.inj H
         have p230 : 0 ≤ (x46_3 : Int) := sqd
         have q230 : x46_3 < (l0_1.length : Int) := sqd
         obtain ⟨ad230, e230, hx230_0⟩ := Kd.at_int HR0_1.out x46_3 p230 q230
         cases e230
         replace hx230_0 := sqa HB hx230_0
         replace p230 := eq_true p230
         replace q230 := eq_true q230
         go_wp2
         go_ret
         exact sqe HB
        have c25b0 : decide (1099511627776 < (rd l0_1 x46_3)) = false := decide_eq_false c25
        clear c25
        have H' := Aside0.mk H
        clear H
        have p230 : 0 ≤ (x46_3 : Int) := sqd
        have q230 : x46_3 < (l0_1.length : Int) := sqd
        obtain ⟨ad230, e230, hx230_0⟩ := Kd.at_int HR0_1.out x46_3 p230 q230
        cases e230
        replace hx230_0 := sqa HB hx230_0
        replace p230 := eq_true p230
        replace q230 := eq_true q230
        go_wp2
        go_roundg k3
        case measure => have := HJ1.out; have := HK2.out; have := HK3.out; omega
        case rel => exact ⟨(wrap64 (x46_3 + 1)), (by first | rfl | (simp; done) | (simp [*]; done)), H', ⟨by have := HJ1.out; have := HK2.out; have := HK3.out; omega⟩, sqk BK227, sqh HB⟩
     have c11b0 := decide_eq_true c11
     clear c11
     replace H := sqbi H
     obtain ⟨t228, A12, H⟩ := H
     replace H : (if 0 ≤ t228 then (if t228 < (l0_1.length : Int) then (if (rd l0_1 t228) = 0 then (impl_GapsOk.l0 k2 (wrap64 (a0_0 + 1)) (wrap64 (x30_2 + 1)) a0_0 l0_1) else (some false)) else (none)) else (none)) = some r := H
     replace H := sqi H
     rcases H with ⟨c13, H⟩ | ⟨c13, H⟩
     ·exact absurd H (by simp)
     have c13b0 := decide_eq_true c13
     clear c13
     replace H := sqi H
     rcases H with ⟨c14, H⟩ | ⟨c14, H⟩
     ·exact absurd H (by simp)
     have c14b0 := decide_eq_true c14
     clear c14
     replace H := sqi H
     rcases H with ⟨c15, H⟩ | ⟨c15, H⟩
     ·have c15b0 : ((rd l0_1 t228) == 0) = false := beq_eq_false_iff_ne.mpr c15
      have c15b1 : ((rd l0_1 t228) != 0) = true := bne_iff_ne.mpr c15
      obtain rfl := Option.some.inj H
      try go_wp2
      replace BK227 := Aside0.mk (blk_drew BK227.out)
      replace HB := Aside0.mk (below_drew1 HB.out)
      have p229 : 0 ≤ (t228 : Int) := sqd
      have q229 : t228 < (l0_1.length : Int) := sqd
      obtain ⟨ad229, e229, hx229_0⟩ := Kd.at_int HR0_1.out t228 p229 q229
      have hw229_0 := hx229_0
      cases e229
      replace hx229_0 := sqa HB hx229_0
      replace p229 := eq_true p229
      replace q229 := eq_true q229
      refine start_ (n := 9) (S := fun w' => w'.cell? ⟨gb227, 0, none⟩ = some (.int .i64 a0_0) ∧ w'.cell? ⟨gb227, 1, none⟩ = some (.slice (some ad229) l0_1.length c0_1) ∧ w'.cell? (ad229.add (t228).toNat) = some (.int .i64 (rd l0_1 t228))) (ds := []) #[false, false, false, false, false, false, false, false, false] (by kernel_rfl) rfl rfl ⟨(blk_cell BK227.out 0).trans rfl, (blk_cell BK227.out 1).trans rfl, (sqa HB hw229_0 :)⟩ (fun hHeld => ?_); refine with_tabW impl_GapsOk.tab6 impl_GapsOk.bits6 (fun HT_ HW_ => ?_)
      generalize wr.drew = w18 at BK227 HB hx229_0 hHeld ⊢
      refine sqp HT_ 0 33 ?_
      refine sqp HT_ 3 36 ?_
      refine sqp HT_ 4 37 ?_
      refine sqw HT_ HW_ 1 34 hHeld ?_
      refine sqw HT_ HW_ 2 35 hHeld ?_
      refine sqo HT_ 5 38 (fun K hK => ?_)
      refine sqG Try.func118 #[.agg #[.int .i64 a0_0, .slice (some ad229) l0_1.length c0_1], .int .i64 x30_2, .int .i64 x30_2] ?_
      with_reducible refine (impl_Gaps_at.calls a0_0 _ _ l0_1 x30_2 x30_2 t228 _ ?side1 ?side2 A12.out).mono ?_
      (case side1 => exact sqC (Kd.C_below HR0_1.out HB.out))
      (case side2 => exact HC0_1.out)
      rintro e w19 ⟨rfl, hb⟩
      refine ⟨_, rfl, ?_⟩
      replace BK227 := sqb BK227 hb
      replace HB := sqs HB hb
      (try clear hb)
      refine hK.out _ _ ⟨(blk_cell BK227.out 0).trans rfl, (blk_cell BK227.out 1).trans rfl, (sqa HB hw229_0 :)⟩ (fun hHeld => ?_)
      clear hK K
      refine sqnm ?_
      refine sqp HT_ 6 39 ?_
      refine sqw HT_ HW_ 7 40 hHeld ?_
      refine sqp HT_ 8 41 ?_
      refine done_ (done_of HT_.out (by kernel_rfl)) ?_
      try go_wp2
      go_ret
      exact sqe HB
     have c15b0 : ((rd l0_1 t228) == 0) = true := beq_iff_eq.mpr c15
     have c15b1 : ((rd l0_1 t228) != 0) = false := bne_eq_false_iff_eq.mpr c15
     clear c15
     have H' := Aside0.mk H
     clear H
     try go_wp2
     replace BK227 := Aside0.mk (blk_drew BK227.out)
     replace HB := Aside0.mk (below_drew1 HB.out)
     have p229 : 0 ≤ (t228 : Int) := sqd
     have q229 : t228 < (l0_1.length : Int) := sqd
     obtain ⟨ad229, e229, hx229_0⟩ := Kd.at_int HR0_1.out t228 p229 q229
     have hw229_0 := hx229_0
     cases e229
     replace hx229_0 := sqa HB hx229_0
     replace p229 := eq_true p229
     replace q229 := eq_true q229
     refine start_ (n := 9) (S := fun w' => w'.cell? ⟨gb227, 0, none⟩ = some (.int .i64 a0_0) ∧ w'.cell? ⟨gb227, 1, none⟩ = some (.slice (some ad229) l0_1.length c0_1) ∧ w'.cell? (ad229.add (t228).toNat) = some (.int .i64 (rd l0_1 t228))) (ds := []) #[false, false, false, false, false, false, false, false, false] (by kernel_rfl) rfl rfl ⟨(blk_cell BK227.out 0).trans rfl, (blk_cell BK227.out 1).trans rfl, (sqa HB hw229_0 :)⟩ (fun hHeld => ?_); refine with_tabW impl_GapsOk.tab6 impl_GapsOk.bits6 (fun HT_ HW_ => ?_)
     generalize wr.drew = w16 at BK227 HB hx229_0 hHeld ⊢
     refine sqp HT_ 0 33 ?_
     refine sqp HT_ 3 36 ?_
     refine sqp HT_ 4 37 ?_
     refine sqw HT_ HW_ 1 34 hHeld ?_
     refine sqw HT_ HW_ 2 35 hHeld ?_
     refine sqo HT_ 5 38 (fun K hK => ?_)
     refine sqG Try.func118 #[.agg #[.int .i64 a0_0, .slice (some ad229) l0_1.length c0_1], .int .i64 x30_2, .int .i64 x30_2] ?_
     with_reducible refine (impl_Gaps_at.calls a0_0 _ _ l0_1 x30_2 x30_2 t228 _ ?side1 ?side2 A12.out).mono ?_
     (case side1 => exact sqC (Kd.C_below HR0_1.out HB.out))
     (case side2 => exact HC0_1.out)
     rintro e w17 ⟨rfl, hb⟩
     refine ⟨_, rfl, ?_⟩
     replace BK227 := sqb BK227 hb
     replace HB := sqs HB hb
     (try clear hb)
     refine hK.out _ _ ⟨(blk_cell BK227.out 0).trans rfl, (blk_cell BK227.out 1).trans rfl, (sqa HB hw229_0 :)⟩ (fun hHeld => ?_)
     clear hK K
     refine sqnm ?_
     refine sqp HT_ 6 39 ?_
     refine sqw HT_ HW_ 7 40 hHeld ?_
     refine sqp HT_ 8 41 ?_
     refine done_ (done_of HT_.out (by kernel_rfl)) ?_
     try go_wp2
     go_roundg k2
     case measure => have := HJ1.out; have := HK2.out; omega
     case rel => exact ⟨(wrap64 (x30_2 + 1)), (by first | rfl | (simp; done) | (simp [*]; done)), H', ⟨by have := HJ1.out; have := HK2.out; omega⟩, sqk BK227, sqh HB⟩

/-! ### impl_Gaps_clone: function 111 -/
set_option maxHeartbeats 8000000 in
set_option maxRecDepth 100000 in
theorem impl_Gaps_clone.calls (a0_0 : Int) (A0_1 : Option Addr) (c0_1 : Nat) (l0_1 : List Int) (r1 : Int) (r2 : List Int) (w : World) (hr0_1 : Kd.C (Kd.int .i64) w A0_1 l0_1.length l0_1) (hc0_1 : l0_1.length ≤ c0_1) (h : impl_Gaps_clone.f a0_0 l0_1 = some (r1, r2)) :
  Calls Try.prog 111 #[.agg #[.int .i64 a0_0, .slice A0_1 l0_1.length c0_1]] w fun e w' => ∃ v1_ : Value, e = .returned (.agg #[.int .i64 r1, v1_]) ∧ Kd.R (Kd.int .i64) 3 w' w.heap.size (fun _ => True) v1_ r2 ∧ Below w.heap.size w w' := by
 have hu41 := Try.underlying41
 have HR0_1 := Aside0.mk hr0_1
 have HC0_1 := Aside0.mk hc0_1
 clear hr0_1 hc0_1
 have HB := Aside0.mk (Below.refl w.heap.size w)
 have H : (if ([] : List Int).length + l0_1.length < 17592186044416 then (some (a0_0, (([] : List Int) ++ l0_1))) else (none)) = some (r1, r2) := h
 clear h
 replace H := sqi H
 rcases H with ⟨c2, H⟩ | ⟨c2, H⟩
 ·exact absurd H (by simp)
 have LMc2 := Aside0.mk c2
 clear c2
 obtain ⟨y233, hy233⟩ : ∃ y_ : List Int, y_ = (([] : List Int) ++ l0_1) := ⟨_, rfl⟩
 replace H : (some (a0_0, y233)) = some (r1, r2) := by first | (rw [hy233]; with_reducible exact H) | (have H2_ := (Option.bind_some _ _).symm.trans H; rw [hy233]; with_reducible exact H2_) | (have H2_ := (Option.bind_some _ _).symm.trans H; with_reducible exact H2_) | with_reducible exact H | (rw [hy233]; exact H) | exact H
 have Ny233 := Aside0.mk hy233
 clear hy233
 simp only [Option.some.injEq, Prod.mk.injEq] at H
 obtain ⟨rfl, rfl⟩ := H
 go_enter Try.func111, Try.ntmps111
 try go_wp2_with (first | ((with_reducible refine gate_dst (N := 1) rfl ?_); refine sqx 1 #[.int .i64 a0_0, .slice A0_1 l0_1.length c0_1] 41 ?_; intro gb231 hg w3 hbox hb; have BK231 := Aside0.mk hbox; have GW231 := sqg HB hg; have GE231 := sqg HB hg; replace HB := sqs HB hb; clear hb hbox hg) | ((with_reducible refine gate_dst (N := 2) rfl ?_); refine sqx 2 #[.int .i64 0, .slice none 0 0] 41 ?_; intro gb232 hg w4 hbox hb; have BK232 := Aside0.mk hbox; have GW232 := sqg HB hg; have GE232 := sqg HB hg; have NB231_232 := sqn BK231 hg; have NB232_231 := sqm BK231 hg; replace BK231 := sqb BK231 hb; replace HB := sqs HB hb; clear hb hbox hg))
 replace BK231 := Aside0.mk (blk_drew BK231.out)
 replace BK232 := Aside0.mk (blk_drew BK232.out)
 replace HB := Aside0.mk (below_drew1 HB.out)
 refine start_ (n := 7) (S := fun w' => w'.cell? ⟨gb231, 0, none⟩ = some (.int .i64 a0_0) ∧ w'.cell? ⟨gb231, 1, none⟩ = some (.slice A0_1 l0_1.length c0_1)) (ds := []) #[false, false, false, false, false, false, false] (by kernel_rfl) rfl rfl sqz (fun hHeld => ?_)
 generalize w4.drew = w5 at BK231 BK232 HB hHeld ⊢
 refine pure_ (i := 0) (N := some 3) (v := ?_) (a' := ?_) #[true, false, false, false, false, false, false] rfl rfl (by kernel_rfl) (fun _ _ _ h => h) (Or.inl ⟨by rfl, ?_⟩) ?_ ?_
 rotate_left
 ·intro w'
  go_simp
  with_reducible rfl
 rotate_left
 ·simp only [Act.put, List.setIfInBounds_toArray, List.set_cons_zero, List.set_cons_succ, i64_w, i32_w]
  rfl
 refine pure_ (i := 2) (N := some 5) (v := ?_) (a' := ?_) #[true, false, true, false, false, false, false] rfl rfl (by kernel_rfl) (fun _ _ _ h => h) (Or.inl ⟨by rfl, ?_⟩) ?_ ?_
 rotate_left
 ·intro w'
  go_simp
  with_reducible rfl
 rotate_left
 ·simp only [Act.put, List.setIfInBounds_toArray, List.set_cons_zero, List.set_cons_succ, i64_w, i32_w]
  rfl
 refine take_ (i := 1) (N := some 4) (v := ?_) (a' := ?_) #[true, true, true, false, false, false, false] rfl rfl (by kernel_rfl) (fun _ _ _ h => h) (Or.inl ⟨by rfl, ?_⟩) hHeld ?_ ?_
 rotate_left
 ·rintro w' ⟨s0, s1⟩
  go_simp
  with_reducible rfl
 rotate_left
 ·simp only [Act.put, List.setIfInBounds_toArray, List.set_cons_zero, List.set_cons_succ, i64_w, i32_w]
  rfl
 refine take_ (i := 3) (N := some 6) (v := ?_) (a' := ?_) #[true, true, true, true, false, false, false] rfl rfl (by kernel_rfl) (fun _ _ _ h => h) (Or.inl ⟨by rfl, ?_⟩) hHeld ?_ ?_
 rotate_left
 ·rintro w' ⟨s0, s1⟩
  go_simp
  with_reducible rfl
 rotate_left
 ·simp only [Act.put, List.setIfInBounds_toArray, List.set_cons_zero, List.set_cons_succ, i64_w, i32_w]
  rfl
 refine one_ (i := 4) (N := some 7) #[true, true, true, true, true, false, false] rfl rfl (by kernel_rfl) (by decide) (fun K hK => ?_)
 refine Kd.R_append_rows_step (Kd.int .i64) (w0 := w) w.heap.size rfl (.const (.slice none 0 0)) (.tmp 6) 39 3 (.int .i64 0) 8 rfl Try.underlying39 info3 rfl (by decide) (by omega) (.slice none 0 0) ([] : List Int) l0_1 _ _ _ (fun _ => True) (fun _ => False) rfl rfl ?aO ?aR (fun _ _ h => h) (fun _ h => h.elim) ?aF ?aB ?aS ?aL ?_
 (case aR => repeat (first | exact (Kd.C_below HR0_1.out HB.out) | (with_reducible refine Kd.C_alloc ?_ _) | (with_reducible refine Kd.C_drewN ?_ _) | (with_reducible refine Kd.C_drew ?_)))
 (case aB => exact (sqB HB))
 (case aF => exact (fun _ _ => trivial))
 (case aO => exact ((Kd.R_nil _ _ _ _ (fun _ => True))))
 (case aS => exact (below_size (sqB HB)))
 (case aL => have := LMc2.out; omega)
 intro v234 w6 ho hb hg hat
 rw [← Ny233.out] at ho
 have n0_ := Aside0.mk (blk_grown (g := gb231) (o := .cells #[.int .i64 a0_0, .slice A0_1 l0_1.length c0_1] 41 (0, 0)) (sqt BK231.out) hg (by simp [Value.ownBlock]))
 have n1_ := Aside0.mk (blk_grown (g := gb232) (o := .cells #[.int .i64 0, .slice none 0 0] 41 (0, 0)) (sqt BK232.out) hg (by simp [Value.ownBlock]))
 have n2_ := Aside0.mk (hb)
 have n3_ := Aside0.mk (ho)
 clear BK231
 clear BK232
 clear HB
 have BK231 := n0_
 have BK232 := n1_
 have HB := n2_
 have HO235 := n3_
 clear n0_ n1_ n2_ n3_
 clear ho hb hg hat
 obtain ⟨Ao7, co7, eo7⟩ := Kd.R_slice HO235.out
 (first | subst eo7 | (injection eo7 with f1_ f2_ f3_; have f4_ := f1_.symm; have f5_ := f3_.symm; clear f1_ f2_ f3_; subst f4_; subst f5_))
 refine hK.out _ _ sqz (fun hHeld => ?_)
 clear hK K
 refine sqnm ?_
 refine pure_ (i := 5) (N := some 8) (v := ?_) (a' := ?_) #[true, true, true, true, true, true, false] rfl rfl (by kernel_rfl) (fun _ _ _ h => h) (Or.inl ⟨by rfl, ?_⟩) ?_ ?_
 rotate_left
 ·intro w'
  go_simp
  with_reducible rfl
 rotate_left
 ·simp only [Act.put, List.setIfInBounds_toArray, List.set_cons_zero, List.set_cons_succ, i64_w, i32_w]
  rfl
 refine one_ (i := 6) (N := none) #[true, true, true, true, true, true, true] rfl rfl (by kernel_rfl) (by decide) (fun K hK => ?_)
 have hs8 : w6.cell? ⟨gb232, 0, none⟩ = some (.int .i64 0) := (blk_cell BK232.out 0).trans rfl
 have hfs8 := blk_frozen BK232.out 0
 have hns8_0 := NB231_232.out
 have hms8_0 := NB232_231.out
 have hs9 : w6.cell? ⟨gb232, 1, none⟩ = some (.slice none 0 0) := (blk_cell BK232.out 1).trans rfl
 have hfs9 := blk_frozen BK232.out 1
 have hns9_0 := NB231_232.out
 have hms9_0 := NB232_231.out
 refine skip_ (w1 := ?_) (by rfl) rfl ?_ ?_
 rotate_left
 ·go_simp
  rfl
 refine hK.out _ _ ⟨((cell_far (p := ⟨gb232, _, none⟩) NB231_232.out _).trans ((sqfa NB231_232 (hHeld.1)))), ((cell_far (p := ⟨gb232, _, none⟩) NB231_232.out _).trans ((sqfa NB231_232 (hHeld.2))))⟩ (fun hHeld => ?_)
 clear hK K
 refine done_ (by kernel_rfl) ?_
 try go_wp2
 refine bodyPost_ret (results_cell_row rfl _ _ gb232 41 #[.int .i64 a0_0, .slice Ao7 y233.length co7] (0, 0) _ rfl (by refine sqt ?_; refine blk_put (cs := #[.int .i64 a0_0, .slice none 0 0]) ?_ 1 _ rfl; refine sqt ?_; refine blk_put (cs := #[.int .i64 0, .slice none 0 0]) ?_ 0 _ rfl; refine sqt ?_; exact BK232.out) Try.underlying41 rfl (by kernel_rfl)) rfl ?_
 exact ⟨_, by first | rfl | (simp [errW_none, errW_some] <;> rfl) | (simp [*, errW_none, errW_some] <;> rfl), by (with_reducible repeat (first | apply Kd.R_alloc | apply Kd.R_drewN | apply Kd.R_drew)); exact Kd.R_mono (Kd.R_far (p := ⟨gb232, 1, none⟩) (Kd.R_far (p := ⟨gb232, 0, none⟩) (Kd.R_types HO235.out BK232.out (by decide)) (fun _ hk => hk.2) (.int .i64 a0_0)) (fun _ hk => hk.2) (.slice Ao7 y233.length co7)) (fun _ hk => trivial), by repeat (first | (with_reducible first | exact HB.out | apply below_alloc | apply pw_below_drewN | apply below_drew1 | refine below_set ?_ GE231.out | refine below_set ?_ GE232.out) | exact HB.out)⟩

/-! ### impl_gapsTogether: function 112 -/
set_option maxHeartbeats 8000000 in
set_option maxRecDepth 100000 in
theorem impl_gapsTogether.calls (a0 : Int) (a1 : Int) (r : Int) (w : World) (h : impl_gapsTogether.f a0 a1 = some r) :
  Calls Try.prog 112 #[.int .i64 a0, .int .i64 a1] w fun e w' => e = .returned (.int .i64 r) ∧ Drawn0 w w' := by
 have H : (if a0 = 1099511627776 then (some 1099511627776) else (if a1 = 1099511627776 then (some 1099511627776) else (if (wrap64 (a0 + a1)) ≥ 1099511627776 then (some 1099511627776) else (some (wrap64 (a0 + a1)))))) = some r := h
 clear h
 replace H := sqj H
 rcases H with ⟨c3, H⟩ | ⟨c3, H⟩
 ·have c3b0 : (a0 == 1099511627776) = true := beq_iff_eq.mpr c3
  have c3b1 : (a0 != 1099511627776) = false := bne_eq_false_iff_eq.mpr c3
  clear c3
  obtain rfl := Option.some.inj H
  go_enter Try.func112, Try.ntmps112
  go_wp2
  go_ret
  exact ⟨by first | rfl | (simp; done) | (simp [*]; done), by repeat (first | exact Drawn0.refl _ | apply Drawn0.step)⟩
 have c3b0 : (a0 == 1099511627776) = false := beq_eq_false_iff_ne.mpr c3
 have c3b1 : (a0 != 1099511627776) = true := bne_iff_ne.mpr c3
 replace H := sqj H
 rcases H with ⟨c4, H⟩ | ⟨c4, H⟩
 ·have c4b0 : (a1 == 1099511627776) = true := beq_iff_eq.mpr c4
  have c4b1 : (a1 != 1099511627776) = false := bne_eq_false_iff_eq.mpr c4
  clear c4
  obtain rfl := Option.some.inj H
  go_enter Try.func112, Try.ntmps112
  go_wp2
  go_ret
  exact ⟨by first | rfl | (simp; done) | (simp [*]; done), by repeat (first | exact Drawn0.refl _ | apply Drawn0.step)⟩
 have c4b0 : (a1 == 1099511627776) = false := beq_eq_false_iff_ne.mpr c4
 have c4b1 : (a1 != 1099511627776) = true := bne_iff_ne.mpr c4
 replace H := sqj H
 rcases H with ⟨c5, H⟩ | ⟨c5, H⟩
 ·have c5b0 : decide (1099511627776 ≤ (wrap64 (a0 + a1))) = true := decide_eq_true c5
  clear c5
  obtain rfl := Option.some.inj H
  go_enter Try.func112, Try.ntmps112
  go_wp2
  go_ret
  exact ⟨by first | rfl | (simp; done) | (simp [*]; done), by repeat (first | exact Drawn0.refl _ | apply Drawn0.step)⟩
 have c5b0 : decide (1099511627776 ≤ (wrap64 (a0 + a1))) = false := decide_eq_false c5
 clear c5
 obtain rfl := Option.some.inj H
 go_enter Try.func112, Try.ntmps112
 go_wp2
 go_ret
 exact ⟨by first | rfl | (simp; done) | (simp [*]; done), by repeat (first | exact Drawn0.refl _ | apply Drawn0.step)⟩

end Go.Proofs.Ytkekcenlleebeaa.PFnGapsClose
