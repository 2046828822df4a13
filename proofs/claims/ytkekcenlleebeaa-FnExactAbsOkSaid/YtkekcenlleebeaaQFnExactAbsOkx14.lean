/- Functions of the program as plain Lean functions, and that calls of them come to what these tell. Conditions: those in each law. -/
import Derived.Test.YtkekcenlleebeaaSq
import Derived.Test.YtkekcenlleebeaaDFnExactAbsOk
import Derived.Test.YtkekcenlleebeaaQFnExactAbsOkx0
import Derived.Test.YtkekcenlleebeaaQFnExactAbsOkx2
import Derived.Test.YtkekcenlleebeaaQFnExactAbsOkx13
namespace Go.Proofs.Ytkekcenlleebeaa.PFnExactAbsOk
open Go.RowKit Go.Proofs.Ytkekcenlleebeaa.Sq Go.Proofs.YtkekcenlleebeaaW.PrintWords Go.Proofs.YtkekcenlleebeaaW.PrintLast Go.Proofs.YtkekcenlleebeaaW.PrintMore
attribute [local go_sem] max2_int min2_int max_two min_two max_three min_three max_four min_four   -- for this text's walks alone
set_option linter.unusedVariables false
set_option linter.unusedSimpArgs false

attribute [local go_sem high] eqA30
/-! ### impl_GapsOk: function 31 -/
theorem impl_GapsOk.mono_l : ∀ k, (∀ y0 y1 y2, LeO (impl_GapsOk.j0 k y0 y1 y2) (impl_GapsOk.j0 (k + 1) y0 y1 y2)) ∧ (∀ y0 y1 y2 y3, LeO (impl_GapsOk.l0 k y0 y1 y2 y3) (impl_GapsOk.l0 (k + 1) y0 y1 y2 y3)) ∧ (∀ y0 y1 y2, LeO (impl_GapsOk.l1 k y0 y1 y2) (impl_GapsOk.l1 (k + 1) y0 y1 y2))
 | 0 => ⟨fun _ _ _ r h => by simp [impl_GapsOk.j0] at h, fun _ _ _ _ r h => by simp [impl_GapsOk.l0] at h, fun _ _ _ r h => by simp [impl_GapsOk.l1] at h⟩
 | k + 1 => by
  obtain ⟨ih0, ih1, ih2⟩ := impl_GapsOk.mono_l k
  refine ⟨?_, ?_, ?_⟩
  ·intro y0 y1 y2
   unfold impl_GapsOk.j0
   repeat' first
   | (with_reducible exact ih0 _ _ _)
   | (with_reducible exact ih1 _ _ _ _)
   | (with_reducible exact ih2 _ _ _)
   | (with_reducible exact LeO.refl _)
   | (with_reducible exact LeO.none _)
   | (with_reducible refine LeO.ite ?_ ?_)
   | (with_reducible refine LeO.bind ?_ (fun _ => ?_))
   | exact ih0 _ _ _
   | exact ih1 _ _ _ _
   | exact ih2 _ _ _
   | exact LeO.none _
   | refine LeO.ite ?_ ?_
   | refine LeO.bind ?_ (fun _ => ?_)
  ·intro y0 y1 y2 y3
   unfold impl_GapsOk.l0
   repeat' first
   | (with_reducible exact ih0 _ _ _)
   | (with_reducible exact ih1 _ _ _ _)
   | (with_reducible exact ih2 _ _ _)
   | (with_reducible exact LeO.refl _)
   | (with_reducible exact LeO.none _)
   | (with_reducible refine LeO.ite ?_ ?_)
   | (with_reducible refine LeO.bind ?_ (fun _ => ?_))
   | exact ih0 _ _ _
   | exact ih1 _ _ _ _
   | exact ih2 _ _ _
   | exact LeO.none _
   | refine LeO.ite ?_ ?_
   | refine LeO.bind ?_ (fun _ => ?_)
  ·intro y0 y1 y2
   unfold impl_GapsOk.l1
   repeat' first
   | (with_reducible exact ih0 _ _ _)
   | (with_reducible exact ih1 _ _ _ _)
   | (with_reducible exact ih2 _ _ _)
   | (with_reducible exact LeO.refl _)
   | (with_reducible exact LeO.none _)
   | (with_reducible refine LeO.ite ?_ ?_)
   | (with_reducible refine LeO.bind ?_ (fun _ => ?_))
   | exact ih0 _ _ _
   | exact ih1 _ _ _ _
   | exact ih2 _ _ _
   | exact LeO.none _
   | refine LeO.ite ?_ ?_
   | refine LeO.bind ?_ (fun _ => ?_)
theorem impl_GapsOk.mono : ∀ a0 a1 k, LeO (impl_GapsOk.f k a0 a1) (impl_GapsOk.f (k + 1) a0 a1) := by
 intro a0 a1 k
 obtain ⟨ih0, ih1, ih2⟩ := impl_GapsOk.mono_l k
 unfold impl_GapsOk.f
 repeat' first
   | (with_reducible exact ih0 _ _ _)
   | (with_reducible exact ih1 _ _ _ _)
   | (with_reducible exact ih2 _ _ _)
   | (with_reducible exact LeO.refl _)
   | (with_reducible exact LeO.none _)
   | (with_reducible refine LeO.ite ?_ ?_)
   | (with_reducible refine LeO.bind ?_ (fun _ => ?_))
   | exact ih0 _ _ _
   | exact ih1 _ _ _ _
   | exact ih2 _ _ _
   | exact LeO.none _
   | refine LeO.ite ?_ ?_
   | refine LeO.bind ?_ (fun _ => ?_)
def impl_GapsOk.T6 : Bool × List (List Nat × List Nat) := (true, [([], []), ([0], [0]), ([], []), ([], []), ([], []), ([2, 3, 4], [2, 3, 4]), ([1, 5], [1, 5]), ([6], [6]), ([7], [7])])
def impl_GapsOk.B6 : List Nat := [0, 1, 0, 0, 0, 28, 63, 127, 255]
theorem impl_GapsOk.tab6 : rtab .any (opsOf Try.f31 6) = impl_GapsOk.T6 := by kernel_rfl
theorem impl_GapsOk.bits6 : waitsOk impl_GapsOk.T6.2 impl_GapsOk.B6 = true := by kernel_rfl
set_option maxHeartbeats 8000000 in
set_option maxRecDepth 100000 in
theorem impl_GapsOk.calls (k : Nat) (a0_0 : Int) (A0_1 : Option Addr) (c0_1 : Nat) (l0_1 : List Int) (r : Bool) (w : World) (hr0_1 : Kd.C (Kd.int .i64) w A0_1 l0_1.length l0_1) (hc0_1 : l0_1.length ≤ c0_1) (h : impl_GapsOk.f k a0_0 l0_1 = some r) :
  Calls Try.prog 31 #[.agg #[.int .i64 a0_0, .slice A0_1 l0_1.length c0_1]] w fun e w' => e = .returned (.bool r) ∧ Below w.heap.size w w' := by
 have hu41 := Try.underlying41
 have HR0_1 := Aside0.mk hr0_1
 have HC0_1 := Aside0.mk hc0_1
 clear hr0_1 hc0_1
 have HB := Aside0.mk (Below.refl w.heap.size w)
 have H : (if a0_0 < 0 then (impl_GapsOk.j0 k true a0_0 l0_1) else (if a0_0 > 12 then (impl_GapsOk.j0 k true a0_0 l0_1) else (impl_GapsOk.j0 k ((l0_1.length : Int) != (wrap64 ((wrap64 (a0_0 + 1)) * (wrap64 (a0_0 + 1))))) a0_0 l0_1))) = some r := h
 clear h
 have HC2 := Aside0.mk H
 clear H
 go_enter Try.func31, Try.ntmps31
 go_upto_region 1 with (first | ((with_reducible refine gate_dst (N := 1) rfl ?_); (try (refine gate_guard (by rfl) ?_; dsimp only)); refine sqx 1 #[.int .i64 a0_0, .slice A0_1 l0_1.length c0_1] 41 ?_; intro gb327 hg w3 hbox hb; have BK327 := Aside0.mk (hbox); have GW327 := sqg HB hg; have GE327 := sqg HB hg; replace HB := sqs HB hb; clear hb hbox hg))
 (try simp only [Act.put, List.setIfInBounds_toArray, List.set_cons_zero, List.set_cons_succ])
 go_cut [26] (fun v26 wc => ∃ (kq : Nat) (x26_1 : Bool), v26 = .bool x26_1 ∧ Aside0 (impl_GapsOk.j0 kq x26_1 a0_0 l0_1 = some r) ∧ Aside0 (kq ≤ k) ∧ Aside0 (wc.heap[gb327]? = some (.cells #[.int .i64 a0_0, (.slice A0_1 l0_1.length c0_1)] 41 (0, 0))) ∧ Aside0 (Below w.heap.size w wc))
 case first =>
  have H := HC2.out
  clear HC2
  by_cases c4 : a0_0 < 0
  ·rw [if_pos c4] at H
   have c4b0 : decide (a0_0 < 0) = true := decide_eq_true c4
   clear c4
   (first | rw [c4b0] | (simp only [i64_w, i32_w]; rw [c4b0]) | skip)
   have H' := Aside0.mk H
   clear H
   obtain ⟨hcz5_0, hcz5_1, hfz5_0, hfz5_1⟩ := sqc2 BK327
   go_wp2
   go_meet
   case rel => exact ⟨_, (true), (by first | rfl | (simp; done) | (simp [*]; done)), H', ⟨by first | omega | exact Nat.le_refl _⟩, sqk BK327, sqh HB⟩
  ·rw [if_neg c4] at H
   have c4b0 : decide (a0_0 < 0) = false := decide_eq_false c4
   clear c4
   (first | rw [c4b0] | (simp only [i64_w, i32_w]; rw [c4b0]) | skip)
   by_cases c6 : a0_0 > 12
   ·rw [if_pos c6] at H
    have c6b0 : decide (12 < a0_0) = true := decide_eq_true c6
    clear c6
    have H' := Aside0.mk H
    clear H
    obtain ⟨hcz7_0, hcz7_1, hfz7_0, hfz7_1⟩ := sqc2 BK327
    go_wp2
    go_meet
    case rel => exact ⟨_, (true), (by first | rfl | (simp; done) | (simp [*]; done)), H', ⟨by first | omega | exact Nat.le_refl _⟩, sqk BK327, sqh HB⟩
   ·rw [if_neg c6] at H
    have c6b0 : decide (12 < a0_0) = false := decide_eq_false c6
    clear c6
    have H' := Aside0.mk H
    clear H
    obtain ⟨hcz8_0, hcz8_1, hfz8_0, hfz8_1⟩ := sqc2 BK327
    go_wp2
    go_meet
    case rel => exact ⟨_, (((l0_1.length : Int) != (wrap64 ((wrap64 (a0_0 + 1)) * (wrap64 (a0_0 + 1)))))), (by first | rfl | (simp; done) | (simp [*]; done)), H', ⟨by first | omega | exact Nat.le_refl _⟩, sqk BK327, sqh HB⟩
 case rest =>
  clear HC2
  obtain ⟨kq, x26_1, rfl, HA, HJ1, BK327, HB⟩ := hcut
  cases kq with
  | zero => exact absurd HA.out (by simp [impl_GapsOk.j0])
  | succ kj1 =>
   have H := HA.out
   clear HA
   simp only [impl_GapsOk.j0] at H
   by_cases c9 : x26_1 = true
   ·subst c9
    have H1 : (some false) = some r := by rw [if_pos rfl] at H; exact H
    clear H
    have H := H1
    clear H1
    obtain rfl := Option.some.inj H
    go_wp2
    go_ret
    exact sqe HB
   ·replace c9 := Bool.eq_false_iff.mpr c9
    subst c9
    have H1 : (impl_GapsOk.l0 kj1 (wrap64 (a0_0 + 1)) 0 a0_0 l0_1) = some r := by rw [if_neg (show ¬ (false = true) by decide)] at H; exact H
    clear H
    have H := H1
    clear H1
    have H' := Aside0.mk H
    clear H
    obtain ⟨hcz10_0, hcz10_1, hfz10_0, hfz10_1⟩ := sqc2 BK327
    go_wp2
    go_loopg [30] kj1 (fun kq v30 w' => ∃ (x30_2 : Int), v30 = .int .i64 x30_2 ∧ Aside0 (impl_GapsOk.l0 kq (wrap64 (a0_0 + 1)) x30_2 a0_0 l0_1 = some r) ∧ Aside0 (kq ≤ kj1) ∧ Aside0 (w'.heap[gb327]? = some (.cells #[.int .i64 a0_0, (.slice A0_1 l0_1.length c0_1)] 41 (0, 0))) ∧ Aside0 (Below w.heap.size w w'))
    case atStart => exact ⟨(0), (by first | rfl | (simp; done) | (simp [*]; done)), H', ⟨Nat.le_refl _⟩, sqk BK327, sqh HB⟩
    case round =>
     clear H'
     try clear p2
     try clear c3
     try clear c4
     try clear c4b0
     try clear c6
     try clear c6b0
     try clear p6
     try clear c9
     try clear hcz10_0
     try clear hcz10_1
     try clear hcz5_0
     try clear hcz5_1
     try clear hcz7_0
     try clear hcz7_1
     try clear hcz8_0
     try clear hcz8_1
     try clear hfz10_0
     try clear hfz10_1
     try clear hfz5_0
     try clear hfz5_1
     try clear hfz7_0
     try clear hfz7_1
     try clear hfz8_0
     try clear hfz8_1
     try clear p2
     try clear p6
     obtain ⟨x30_2, rfl, HA, HK2, BK327, HB⟩ := hrel
     cases gk with
     | zero => exact absurd HA.out (by simp [impl_GapsOk.l0])
     | succ k2 =>
      have H := HA.out
      clear HA
      simp only [impl_GapsOk.l0] at H
      by_cases c11 : x30_2 < (wrap64 (a0_0 + 1))
      ·rw [if_pos c11] at H
       have c11b0 : decide (x30_2 < (wrap64 (a0_0 + 1))) = true := decide_eq_true c11
       clear c11
       replace H := Option.bind_eq_some_iff.mp H
       obtain ⟨t328, A120, H⟩ := H
       replace H : (if 0 ≤ t328 then (if t328 < (l0_1.length : Int) then (if (rd l0_1 t328) = 0 then (impl_GapsOk.l0 k2 (wrap64 (a0_0 + 1)) (wrap64 (x30_2 + 1)) a0_0 l0_1) else (some false)) else (none)) else (none)) = some r := H
       have A12 := Aside0.mk A120
       clear A120
       by_cases c13 : 0 ≤ t328
       ·rw [if_pos c13] at H
        have c13b0 : decide (0 ≤ t328) = true := decide_eq_true c13
        clear c13
        by_cases c14 : t328 < (l0_1.length : Int)
        ·rw [if_pos c14] at H
         have c14b0 : decide (t328 < (l0_1.length : Int)) = true := decide_eq_true c14
         clear c14
         by_cases c15 : (rd l0_1 t328) = 0
         ·rw [if_pos c15] at H
          have c15b0 : ((rd l0_1 t328) == 0) = true := beq_iff_eq.mpr c15
          have c15b1 : ((rd l0_1 t328) != 0) = false := bne_eq_false_iff_eq.mpr c15
          clear c15
          have H' := Aside0.mk H
          clear H
          try go_wp2
          replace BK327 := Aside0.mk (blk_drew BK327.out)
          replace HB := Aside0.mk (below_drew1 HB.out)
          have p329 : 0 ≤ (t328 : Int) := of_decide_eq_true (by first | (with_reducible assumption) | assumption)
          have q329 : t328 < (l0_1.length : Int) := of_decide_eq_true (by first | (with_reducible assumption) | assumption)
          obtain ⟨ad329, e329, hx329_0⟩ := Kd.at_int HR0_1.out t328 p329 q329
          have hw329_0 := hx329_0
          cases e329
          replace hx329_0 := (HB.out.cell (World.block_lt_of_cell? w _ hx329_0)).trans hx329_0
          replace p329 := eq_true p329
          replace q329 := eq_true q329
          refine start_ (n := 9) (S := fun w' => w'.cell? ⟨gb327, 0, none⟩ = some (.int .i64 a0_0) ∧ w'.cell? ⟨gb327, 1, none⟩ = some (.slice (some ad329) l0_1.length c0_1) ∧ w'.cell? (ad329.add (t328).toNat) = some (.int .i64 (rd l0_1 t328))) (ds := []) #[false, false, false, false, false, false, false, false, false] (by kernel_rfl) rfl rfl ⟨(blk_cell BK327.out 0).trans rfl, (blk_cell BK327.out 1).trans rfl, ((HB.out.cell (World.block_lt_of_cell? w _ hw329_0)).trans hw329_0)⟩ (fun hHeld => ?_); refine with_tabW impl_GapsOk.tab6 impl_GapsOk.bits6 (fun HT_ HW_ => ?_)
          generalize wr.drew = w16 at BK327 HB hx329_0 hHeld ⊢
          refine sqp HT_ 0 33 ?_
          refine sqp HT_ 3 36 ?_
          refine sqp HT_ 4 37 ?_
          refine sqw HT_ HW_ 1 34 hHeld ?_
          refine sqw HT_ HW_ 2 35 hHeld ?_
          refine sqo HT_ 5 38 (fun K hK => ?_)
          refine sqG Try.func118 #[.agg #[.int .i64 a0_0, .slice (some ad329) l0_1.length c0_1], .int .i64 x30_2, .int .i64 x30_2] ?_
          with_reducible refine (impl_Gaps_at.calls a0_0 _ _ l0_1 x30_2 x30_2 t328 _ ?side1 ?side2 A12.out).mono ?_
          (case side1 => repeat (first | exact (Kd.C_below HR0_1.out HB.out) | (with_reducible refine Kd.C_alloc ?_ _) | (with_reducible refine Kd.C_drewN ?_ _) | (with_reducible refine Kd.C_drew ?_)))
          (case side2 => exact HC0_1.out)
          rintro e w17 ⟨rfl, hb⟩
          refine ⟨_, rfl, ?_⟩
          replace BK327 := sqb BK327 hb
          replace HB := sqs HB hb
          (try clear hb)
          refine hK.out _ _ ⟨(blk_cell BK327.out 0).trans rfl, (blk_cell BK327.out 1).trans rfl, ((HB.out.cell (World.block_lt_of_cell? w _ hw329_0)).trans hw329_0)⟩ (fun hHeld => ?_)
          clear hK K
          refine sqnm ?_
          refine sqp HT_ 6 39 ?_
          refine sqw HT_ HW_ 7 40 hHeld ?_
          refine sqp HT_ 8 41 ?_
          refine done_ (done_of HT_.out (by kernel_rfl)) ?_
          try go_wp2
          go_roundg k2
          case measure => have := HJ1.out; have := HK2.out; omega
          case rel => exact ⟨(wrap64 (x30_2 + 1)), (by first | rfl | (simp; done) | (simp [*]; done)), H', ⟨by have := HJ1.out; have := HK2.out; omega⟩, sqk BK327, sqh HB⟩
         ·rw [if_neg c15] at H
          have c15b0 : ((rd l0_1 t328) == 0) = false := beq_eq_false_iff_ne.mpr c15
          have c15b1 : ((rd l0_1 t328) != 0) = true := bne_iff_ne.mpr c15
          obtain rfl := Option.some.inj H
          try go_wp2
          replace BK327 := Aside0.mk (blk_drew BK327.out)
          replace HB := Aside0.mk (below_drew1 HB.out)
          have p329 : 0 ≤ (t328 : Int) := of_decide_eq_true (by first | (with_reducible assumption) | assumption)
          have q329 : t328 < (l0_1.length : Int) := of_decide_eq_true (by first | (with_reducible assumption) | assumption)
          obtain ⟨ad329, e329, hx329_0⟩ := Kd.at_int HR0_1.out t328 p329 q329
          have hw329_0 := hx329_0
          cases e329
          replace hx329_0 := (HB.out.cell (World.block_lt_of_cell? w _ hx329_0)).trans hx329_0
          replace p329 := eq_true p329
          replace q329 := eq_true q329
          refine start_ (n := 9) (S := fun w' => w'.cell? ⟨gb327, 0, none⟩ = some (.int .i64 a0_0) ∧ w'.cell? ⟨gb327, 1, none⟩ = some (.slice (some ad329) l0_1.length c0_1) ∧ w'.cell? (ad329.add (t328).toNat) = some (.int .i64 (rd l0_1 t328))) (ds := []) #[false, false, false, false, false, false, false, false, false] (by kernel_rfl) rfl rfl ⟨(blk_cell BK327.out 0).trans rfl, (blk_cell BK327.out 1).trans rfl, ((HB.out.cell (World.block_lt_of_cell? w _ hw329_0)).trans hw329_0)⟩ (fun hHeld => ?_); refine with_tabW impl_GapsOk.tab6 impl_GapsOk.bits6 (fun HT_ HW_ => ?_)
          generalize wr.drew = w18 at BK327 HB hx329_0 hHeld ⊢
          refine sqp HT_ 0 33 ?_
          refine sqp HT_ 3 36 ?_
          refine sqp HT_ 4 37 ?_
          refine sqw HT_ HW_ 1 34 hHeld ?_
          refine sqw HT_ HW_ 2 35 hHeld ?_
          refine sqo HT_ 5 38 (fun K hK => ?_)
          refine sqG Try.func118 #[.agg #[.int .i64 a0_0, .slice (some ad329) l0_1.length c0_1], .int .i64 x30_2, .int .i64 x30_2] ?_
          with_reducible refine (impl_Gaps_at.calls a0_0 _ _ l0_1 x30_2 x30_2 t328 _ ?side1 ?side2 A12.out).mono ?_
          (case side1 => repeat (first | exact (Kd.C_below HR0_1.out HB.out) | (with_reducible refine Kd.C_alloc ?_ _) | (with_reducible refine Kd.C_drewN ?_ _) | (with_reducible refine Kd.C_drew ?_)))
          (case side2 => exact HC0_1.out)
          rintro e w19 ⟨rfl, hb⟩
          refine ⟨_, rfl, ?_⟩
          replace BK327 := sqb BK327 hb
          replace HB := sqs HB hb
          (try clear hb)
          refine hK.out _ _ ⟨(blk_cell BK327.out 0).trans rfl, (blk_cell BK327.out 1).trans rfl, ((HB.out.cell (World.block_lt_of_cell? w _ hw329_0)).trans hw329_0)⟩ (fun hHeld => ?_)
          clear hK K
          refine sqnm ?_
          refine sqp HT_ 6 39 ?_
          refine sqw HT_ HW_ 7 40 hHeld ?_
          refine sqp HT_ 8 41 ?_
          refine done_ (done_of HT_.out (by kernel_rfl)) ?_
          try go_wp2
          go_ret
          exact sqe HB
        ·rw [if_neg c14] at H
         exact absurd H (by simp)
       ·rw [if_neg c13] at H
        exact absurd H (by simp)
      ·rw [if_neg c11] at H
       have c11b0 : decide (x30_2 < (wrap64 (a0_0 + 1))) = false := decide_eq_false c11
       clear c11
       have H' := Aside0.mk H
       clear H
       obtain ⟨hcz20_0, hcz20_1, hfz20_0, hfz20_1⟩ := sqc2 BK327
       go_wp2
       go_loopg [46] k2 (fun kq v46 w' => ∃ (x46_3 : Int), v46 = .int .i64 x46_3 ∧ Aside0 (impl_GapsOk.l1 kq l0_1 (l0_1.length : Int) x46_3 = some r) ∧ Aside0 (kq ≤ k2) ∧ Aside0 (w'.heap[gb327]? = some (.cells #[.int .i64 a0_0, (.slice A0_1 l0_1.length c0_1)] 41 (0, 0))) ∧ Aside0 (Below w.heap.size w w'))
       case atStart => exact ⟨(0), (by first | rfl | (simp; done) | (simp [*]; done)), H', ⟨Nat.le_refl _⟩, sqk BK327, sqh HB⟩
       case round =>
        clear H'
        try clear c1
        try clear p2
        try clear c3
        try clear p3
        try clear q3
        try clear hx3
        try clear c4
        try clear c4b0
        try clear c6
        try clear c6b0
        try clear p6
        try clear c9
        try clear c11
        try clear c11b0
        try clear c13
        try clear c13b0
        try clear c14
        try clear c14b0
        try clear c15
        try clear c15b0
        try clear c15b1
        try clear hcz10_0
        try clear hcz10_1
        try clear hcz20_0
        try clear hcz20_1
        try clear hcz5_0
        try clear hcz5_1
        try clear hcz7_0
        try clear hcz7_1
        try clear hcz8_0
        try clear hcz8_1
        try clear hfz10_0
        try clear hfz10_1
        try clear hfz20_0
        try clear hfz20_1
        try clear hfz5_0
        try clear hfz5_1
        try clear hfz7_0
        try clear hfz7_1
        try clear hfz8_0
        try clear hfz8_1
        try clear hx329_0
        try clear p2
        try clear p329
        try clear p6
        try clear q329
        obtain ⟨x46_3, rfl, HA, HK3, BK327, HB⟩ := hrel
        cases gk with
        | zero => exact absurd HA.out (by simp [impl_GapsOk.l1])
        | succ k3 =>
         have H := HA.out
         clear HA
         simp only [impl_GapsOk.l1] at H
         by_cases c21 : x46_3 < (l0_1.length : Int)
         ·rw [if_pos c21] at H
          have c21b0 : decide (x46_3 < (l0_1.length : Int)) = true := decide_eq_true c21
          clear c21
          by_cases c22 : 0 ≤ x46_3
          ·rw [if_pos c22] at H
           have c22b0 : decide (0 ≤ x46_3) = true := decide_eq_true c22
           clear c22
           by_cases c23 : x46_3 < (l0_1.length : Int)
           ·rw [if_pos c23] at H
            have c23b0 : decide (x46_3 < (l0_1.length : Int)) = true := decide_eq_true c23
            clear c23
            by_cases c24 : (rd l0_1 x46_3) < (-1099511627776)
            ·rw [if_pos c24] at H
             have c24b0 : decide ((rd l0_1 x46_3) < (-1099511627776)) = true := decide_eq_true c24
             clear c24
             obtain rfl := Option.some.inj H
             have p330 : 0 ≤ (x46_3 : Int) := of_decide_eq_true (by first | (with_reducible assumption) | assumption)
             have q330 : x46_3 < (l0_1.length : Int) := of_decide_eq_true (by first | (with_reducible assumption) | assumption)
             obtain ⟨ad330, e330, hx330_0⟩ := Kd.at_int HR0_1.out x46_3 p330 q330
             cases e330
             replace hx330_0 := (HB.out.cell (World.block_lt_of_cell? w _ hx330_0)).trans hx330_0
             replace p330 := eq_true p330
             replace q330 := eq_true q330
             go_wp2
             go_ret
             exact sqe HB
            ·rw [if_neg c24] at H
             have c24b0 : decide ((rd l0_1 x46_3) < (-1099511627776)) = false := decide_eq_false c24
             clear c24
             by_cases c25 : (rd l0_1 x46_3) > 1099511627776
             ·rw [if_pos c25] at H
              have c25b0 : decide (1099511627776 < (rd l0_1 x46_3)) = true := decide_eq_true c25
              clear c25
              obtain rfl := Option.some.inj H
              have p330 : 0 ≤ (x46_3 : Int) := of_decide_eq_true (by first | (with_reducible assumption) | assumption)
              have q330 : x46_3 < (l0_1.length : Int) := of_decide_eq_true (by first | (with_reducible assumption) | assumption)
              obtain ⟨ad330, e330, hx330_0⟩ := Kd.at_int HR0_1.out x46_3 p330 q330
              cases e330
              replace hx330_0 := (HB.out.cell (World.block_lt_of_cell? w _ hx330_0)).trans hx330_0
              replace p330 := eq_true p330
              replace q330 := eq_true q330
              go_wp2
              go_ret
              exact sqe HB
             ·rw [if_neg c25] at H
              have c25b0 : decide (1099511627776 < (rd l0_1 x46_3)) = false := decide_eq_false c25
              clear c25
              have H' := Aside0.mk H
              clear H
              have p330 : 0 ≤ (x46_3 : Int) := of_decide_eq_true (by first | (with_reducible assumption) | assumption)
              have q330 : x46_3 < (l0_1.length : Int) := of_decide_eq_true (by first | (with_reducible assumption) | assumption)
              obtain ⟨ad330, e330, hx330_0⟩ := Kd.at_int HR0_1.out x46_3 p330 q330
              cases e330
              replace hx330_0 := (HB.out.cell (World.block_lt_of_cell? w _ hx330_0)).trans hx330_0
              replace p330 := eq_true p330
              replace q330 := eq_true q330
              go_wp2
              go_roundg k3
              case measure => have := HJ1.out; have := HK2.out; have := HK3.out; omega
              case rel => exact ⟨(wrap64 (x46_3 + 1)), (by first | rfl | (simp; done) | (simp [*]; done)), H', ⟨by have := HJ1.out; have := HK2.out; have := HK3.out; omega⟩, sqk BK327, sqh HB⟩
           ·rw [if_neg c23] at H
            exact absurd H (by simp)
          ·rw [if_neg c22] at H
           exact absurd H (by simp)
         ·rw [if_neg c21] at H
          have c21b0 : decide (x46_3 < (l0_1.length : Int)) = false := decide_eq_false c21
          clear c21
          obtain rfl := Option.some.inj H
          go_wp2
          go_ret
          exact sqe HB

/-! ### impl_Val_none: function 144 -/
set_option maxHeartbeats 8000000 in
set_option maxRecDepth 100000 in
theorem impl_Val_none.calls (a0_0 : Int) (a0_1 : Int) (a0_2 : Int) (a0_3 : Int) (r : Bool) (w : World) (h : impl_Val_none.f a0_0 a0_1 a0_2 a0_3 = some r) :
  Calls Try.prog 144 #[.agg #[.int .i64 a0_0, .int .i64 a0_1, .int .i64 a0_2, .int .i64 a0_3]] w fun e w' => e = .returned (.bool r) ∧ Below w.heap.size w w' := by
 have hu30 := Try.underlying30
 have HB := Aside0.mk (Below.refl w.heap.size w)
 have H : ((impl_valNone.f).bind fun bt332 => (some (a0_0 == bt332.1 && (a0_1 == bt332.2.1 && (a0_2 == bt332.2.2.1 && (a0_3 == bt332.2.2.2)))))) = some r := h
 clear h
 replace H := Option.bind_eq_some_iff.mp H
 obtain ⟨⟨t332, t333, t334, t335⟩, A20, H⟩ := H
 replace H : (some (a0_0 == t332 && (a0_1 == t333 && (a0_2 == t334 && (a0_3 == t335))))) = some r := H
 have A2 := Aside0.mk A20
 clear A20
 obtain rfl := Option.some.inj H
 go_enter Try.func144, Try.ntmps144
 try go_wp2_with (first | ((with_reducible refine gate_dst (N := 1) rfl ?_); refine sqx 1 #[.int .i64 a0_0, .int .i64 a0_1, .int .i64 a0_2, .int .i64 a0_3] 30 ?_; intro gb331 hg w3 hbox hb; have BK331 := Aside0.mk (hbox); have GW331 := sqg HB hg; have GE331 := sqg HB hg; replace HB := sqs HB hb; clear hb hbox hg))
 replace BK331 := Aside0.mk (blk_drew BK331.out)
 replace HB := Aside0.mk (below_drew1 HB.out)
 refine start_ (n := 4) (S := fun w' => w'.cell? ⟨gb331, 0, none⟩ = some (.int .i64 a0_0) ∧ w'.cell? ⟨gb331, 1, none⟩ = some (.int .i64 a0_1) ∧ w'.cell? ⟨gb331, 2, none⟩ = some (.int .i64 a0_2) ∧ w'.cell? ⟨gb331, 3, none⟩ = some (.int .i64 a0_3)) (ds := []) #[false, false, false, false] (by kernel_rfl) rfl rfl ⟨(blk_cell BK331.out 0).trans rfl, (blk_cell BK331.out 1).trans rfl, (blk_cell BK331.out 2).trans rfl, (blk_cell BK331.out 3).trans rfl⟩ (fun hHeld => ?_)
 generalize w3.drew = w4 at BK331 HB hHeld ⊢
 refine take_ (i := 0) (N := some 3) (v := ?_) (a' := ?_) #[true, false, false, false] rfl rfl (by kernel_rfl) (fun _ _ _ h => h) (Or.inl ⟨by rfl, ?_⟩) hHeld ?_ ?_
 rotate_left
 ·rintro w' ⟨s0, s1, s2, s3⟩
  go_simp
  with_reducible rfl
 rotate_left
 ·simp only [Act.put, List.setIfInBounds_toArray, List.set_cons_zero, List.set_cons_succ, i64_w, i32_w]
  rfl
 refine one_ (i := 1) (N := some 4) #[true, true, false, false] rfl rfl (by kernel_rfl) (by decide) (fun K hK => ?_)
 refine sqG Try.func96 #[] ?_
 with_reducible refine (impl_valNone.calls  t332 t333 t334 t335 _ A2.out).mono ?_
 rintro e w5 ⟨rfl, hb⟩
 refine ⟨_, rfl, ?_⟩
 replace BK331 := sqb BK331 hb
 replace HB := sqs HB hb
 (try clear hb)
 refine hK.out _ _ sqz (fun hHeld => ?_)
 clear hK K
 refine sqnm ?_
 refine pure_ (i := 2) (N := some 5) (v := ?_) (a' := ?_) #[true, true, true, false] rfl rfl (by kernel_rfl) (fun _ _ _ h => h) (Or.inl ⟨by rfl, ?_⟩) ?_ ?_
 rotate_left
 ·intro w'
  go_simp
  with_reducible rfl
 rotate_left
 ·simp only [Act.put, List.setIfInBounds_toArray, List.set_cons_zero, List.set_cons_succ, i64_w, i32_w]
  rfl
 refine pure_ (i := 3) (N := some 2) (v := ?_) (a' := ?_) #[true, true, true, true] rfl rfl (by kernel_rfl) (fun _ _ _ h => h) (Or.inl ⟨by rfl, ?_⟩) ?_ ?_
 rotate_left
 ·intro w'
  go_simp
  with_reducible rfl
 rotate_left
 ·simp only [Act.put, List.setIfInBounds_toArray, List.set_cons_zero, List.set_cons_succ, i64_w, i32_w]
  rfl
 refine done_ (by kernel_rfl) ?_
 try go_wp2
 go_ret
 exact sqe HB

end Go.Proofs.Ytkekcenlleebeaa.PFnExactAbsOk
