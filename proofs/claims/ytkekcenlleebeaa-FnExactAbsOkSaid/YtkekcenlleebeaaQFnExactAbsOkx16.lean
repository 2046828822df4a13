/- Functions of the program as plain Lean functions, and that calls of them come to what these tell. Conditions: those in each law. -/
import Derived.Test.YtkekcenlleebeaaSq
import Derived.Test.YtkekcenlleebeaaDFnExactAbsOk
import Derived.Test.YtkekcenlleebeaaQFnExactAbsOkx0
import Derived.Test.YtkekcenlleebeaaQFnExactAbsOkx13
import Derived.Test.YtkekcenlleebeaaQFnExactAbsOkx14
import Derived.Test.YtkekcenlleebeaaQFnExactAbsOkx15
namespace Go.Proofs.Ytkekcenlleebeaa.PFnExactAbsOk
open Go.RowKit Go.Proofs.Ytkekcenlleebeaa.Sq Go.Proofs.YtkekcenlleebeaaW.PrintWords Go.Proofs.YtkekcenlleebeaaW.PrintLast Go.Proofs.YtkekcenlleebeaaW.PrintMore
attribute [local go_sem] max2_int min2_int max_two min_two max_three min_three max_four min_four   -- for this text's walks alone
set_option linter.unusedVariables false
set_option linter.unusedSimpArgs false

/-! ### impl_AbsOk: function 60 -/
theorem impl_AbsOk.mono_l : ∀ k, (∀ y0 y1 y2 y3 y4 y5 y6 y7 y8, LeO (impl_AbsOk.l0 k y0 y1 y2 y3 y4 y5 y6 y7 y8) (impl_AbsOk.l0 (k + 1) y0 y1 y2 y3 y4 y5 y6 y7 y8)) ∧ (∀ y0 y1 y2 y3 y4 y5 y6 y7 y8, LeO (impl_AbsOk.l1 k y0 y1 y2 y3 y4 y5 y6 y7 y8) (impl_AbsOk.l1 (k + 1) y0 y1 y2 y3 y4 y5 y6 y7 y8)) ∧ (∀ y0 y1 y2 y3 y4 y5 y6 y7 y8, LeO (impl_AbsOk.l2 k y0 y1 y2 y3 y4 y5 y6 y7 y8) (impl_AbsOk.l2 (k + 1) y0 y1 y2 y3 y4 y5 y6 y7 y8))
 | 0 => ⟨fun _ _ _ _ _ _ _ _ _ r h => by simp [impl_AbsOk.l0] at h, fun _ _ _ _ _ _ _ _ _ r h => by simp [impl_AbsOk.l1] at h, fun _ _ _ _ _ _ _ _ _ r h => by simp [impl_AbsOk.l2] at h⟩
 | k + 1 => by
  obtain ⟨ih0, ih1, ih2⟩ := impl_AbsOk.mono_l k
  refine ⟨?_, ?_, ?_⟩
  ·intro y0 y1 y2 y3 y4 y5 y6 y7 y8
   unfold impl_AbsOk.l0
   repeat' first
   | (with_reducible exact ih0 _ _ _ _ _ _ _ _ _)
   | (with_reducible exact ih1 _ _ _ _ _ _ _ _ _)
   | (with_reducible exact ih2 _ _ _ _ _ _ _ _ _)
   | (with_reducible exact impl_GapsOk.mono _ _ _)
   | (with_reducible exact impl_ValOk.mono _ _ _ _ _)
   | (with_reducible exact impl_refOk.mono _ _ _ _ _ _ _)
   | (with_reducible exact LeO.refl _)
   | (with_reducible exact LeO.none _)
   | (with_reducible refine LeO.ite ?_ ?_)
   | (with_reducible refine LeO.bind ?_ (fun _ => ?_))
   | exact ih0 _ _ _ _ _ _ _ _ _
   | exact ih1 _ _ _ _ _ _ _ _ _
   | exact ih2 _ _ _ _ _ _ _ _ _
   | exact impl_GapsOk.mono _ _ _
   | exact impl_ValOk.mono _ _ _ _ _
   | exact impl_refOk.mono _ _ _ _ _ _ _
   | exact LeO.none _
   | refine LeO.ite ?_ ?_
   | refine LeO.bind ?_ (fun _ => ?_)
  ·intro y0 y1 y2 y3 y4 y5 y6 y7 y8
   unfold impl_AbsOk.l1
   repeat' first
   | (with_reducible exact ih0 _ _ _ _ _ _ _ _ _)
   | (with_reducible exact ih1 _ _ _ _ _ _ _ _ _)
   | (with_reducible exact ih2 _ _ _ _ _ _ _ _ _)
   | (with_reducible exact impl_GapsOk.mono _ _ _)
   | (with_reducible exact impl_ValOk.mono _ _ _ _ _)
   | (with_reducible exact impl_refOk.mono _ _ _ _ _ _ _)
   | (with_reducible exact LeO.refl _)
   | (with_reducible exact LeO.none _)
   | (with_reducible refine LeO.ite ?_ ?_)
   | (with_reducible refine LeO.bind ?_ (fun _ => ?_))
   | exact ih0 _ _ _ _ _ _ _ _ _
   | exact ih1 _ _ _ _ _ _ _ _ _
   | exact ih2 _ _ _ _ _ _ _ _ _
   | exact impl_GapsOk.mono _ _ _
   | exact impl_ValOk.mono _ _ _ _ _
   | exact impl_refOk.mono _ _ _ _ _ _ _
   | exact LeO.none _
   | refine LeO.ite ?_ ?_
   | refine LeO.bind ?_ (fun _ => ?_)
  ·intro y0 y1 y2 y3 y4 y5 y6 y7 y8
   unfold impl_AbsOk.l2
   repeat' first
   | (with_reducible exact ih0 _ _ _ _ _ _ _ _ _)
   | (with_reducible exact ih1 _ _ _ _ _ _ _ _ _)
   | (with_reducible exact ih2 _ _ _ _ _ _ _ _ _)
   | (with_reducible exact impl_GapsOk.mono _ _ _)
   | (with_reducible exact impl_ValOk.mono _ _ _ _ _)
   | (with_reducible exact impl_refOk.mono _ _ _ _ _ _ _)
   | (with_reducible exact LeO.refl _)
   | (with_reducible exact LeO.none _)
   | (with_reducible refine LeO.ite ?_ ?_)
   | (with_reducible refine LeO.bind ?_ (fun _ => ?_))
   | exact ih0 _ _ _ _ _ _ _ _ _
   | exact ih1 _ _ _ _ _ _ _ _ _
   | exact ih2 _ _ _ _ _ _ _ _ _
   | exact impl_GapsOk.mono _ _ _
   | exact impl_ValOk.mono _ _ _ _ _
   | exact impl_refOk.mono _ _ _ _ _ _ _
   | exact LeO.none _
   | refine LeO.ite ?_ ?_
   | refine LeO.bind ?_ (fun _ => ?_)
theorem impl_AbsOk.mono : ∀ a0 a1 a2 a3 a4 a5 k, LeO (impl_AbsOk.f k a0 a1 a2 a3 a4 a5) (impl_AbsOk.f (k + 1) a0 a1 a2 a3 a4 a5) := by
 intro a0 a1 a2 a3 a4 a5 k
 obtain ⟨ih0, ih1, ih2⟩ := impl_AbsOk.mono_l k
 unfold impl_AbsOk.f
 repeat' first
   | (with_reducible exact ih0 _ _ _ _ _ _ _ _ _)
   | (with_reducible exact ih1 _ _ _ _ _ _ _ _ _)
   | (with_reducible exact ih2 _ _ _ _ _ _ _ _ _)
   | (with_reducible exact impl_GapsOk.mono _ _ _)
   | (with_reducible exact impl_ValOk.mono _ _ _ _ _)
   | (with_reducible exact impl_refOk.mono _ _ _ _ _ _ _)
   | (with_reducible exact LeO.refl _)
   | (with_reducible exact LeO.none _)
   | (with_reducible refine LeO.ite ?_ ?_)
   | (with_reducible refine LeO.bind ?_ (fun _ => ?_))
   | exact ih0 _ _ _ _ _ _ _ _ _
   | exact ih1 _ _ _ _ _ _ _ _ _
   | exact ih2 _ _ _ _ _ _ _ _ _
   | exact impl_GapsOk.mono _ _ _
   | exact impl_ValOk.mono _ _ _ _ _
   | exact impl_refOk.mono _ _ _ _ _ _ _
   | exact LeO.none _
   | refine LeO.ite ?_ ?_
   | refine LeO.bind ?_ (fun _ => ?_)
set_option maxHeartbeats 8000000 in
set_option maxRecDepth 100000 in
theorem impl_AbsOk.calls (k : Nat) (a0_0 : Bool) (A0_1 : Option Addr) (c0_1 : Nat) (l0_1 : List (S30)) (A0_2 : Option Addr) (c0_2 : Nat) (l0_2 : List (S132)) (A0_3 : Option Addr) (c0_3 : Nat) (l0_3 : List (S30)) (a0_4 : Int) (A0_5 : Option Addr) (c0_5 : Nat) (l0_5 : List Int) (r : Bool) (w : World) (hr0_1 : Kd.C k30 w A0_1 l0_1.length l0_1) (hc0_1 : l0_1.length ≤ c0_1) (hr0_2 : Kd.C k132 w A0_2 l0_2.length l0_2) (hc0_2 : l0_2.length ≤ c0_2) (hr0_3 : Kd.C k30 w A0_3 l0_3.length l0_3) (hc0_3 : l0_3.length ≤ c0_3) (hr0_5 : Kd.C (Kd.int .i64) w A0_5 l0_5.length l0_5) (hc0_5 : l0_5.length ≤ c0_5) (h : impl_AbsOk.f k a0_0 l0_1 l0_2 l0_3 a0_4 l0_5 = some r) :
  Calls Try.prog 60 #[.agg #[.bool a0_0, .slice A0_1 l0_1.length c0_1, .slice A0_2 l0_2.length c0_2, .slice A0_3 l0_3.length c0_3, .int .i64 a0_4, .slice A0_5 l0_5.length c0_5]] w fun e w' => e = .returned (.bool r) ∧ Below w.heap.size w w' := by
 have hu78 := Try.underlying78
 have hu30 := Try.underlying30
 have hu132 := Try.underlying132
 have hu41 := Try.underlying41
 have HR0_1 := Aside0.mk hr0_1
 have HC0_1 := Aside0.mk hc0_1
 clear hr0_1 hc0_1
 have HR0_2 := Aside0.mk hr0_2
 have HC0_2 := Aside0.mk hc0_2
 clear hr0_2 hc0_2
 have HR0_3 := Aside0.mk hr0_3
 have HC0_3 := Aside0.mk hc0_3
 clear hr0_3 hc0_3
 have HR0_5 := Aside0.mk hr0_5
 have HC0_5 := Aside0.mk hc0_5
 clear hr0_5 hc0_5
 have HB := Aside0.mk (Below.refl w.heap.size w)
 have H : (if a0_0 = true then (impl_AbsOk.l0 k l0_1 (l0_1.length : Int) 0 a0_0 l0_1 l0_2 l0_3 a0_4 l0_5) else (if (l0_1.length : Int) = 0 then (if (l0_2.length : Int) = 0 then (if (l0_3.length : Int) = 0 then (if a0_4 = 0 then (some ((l0_5.length : Int) == 0)) else (some false)) else (some false)) else (some false)) else (some false))) = some r := h
 clear h
 by_cases c2 : a0_0 = true
 ·subst c2
  have H1 : (impl_AbsOk.l0 k l0_1 (l0_1.length : Int) 0 true l0_1 l0_2 l0_3 a0_4 l0_5) = some r := by rw [if_pos rfl] at H; exact H
  clear H
  have H := H1
  clear H1
  have H' := Aside0.mk H
  clear H
  go_enter Try.func60, Try.ntmps60
  go_wp2_with (first | ((with_reducible refine gate_dst (N := 1) rfl ?_); (try (refine gate_guard (by rfl) ?_; dsimp only)); refine sqx 1 #[.bool true, .slice A0_1 l0_1.length c0_1, .slice A0_2 l0_2.length c0_2, .slice A0_3 l0_3.length c0_3, .int .i64 a0_4, .slice A0_5 l0_5.length c0_5] 78 ?_; intro gb340 hg w3 hbox hb; have BK340 := Aside0.mk (hbox); have GW340 := sqg HB hg; have GE340 := sqg HB hg; replace HB := sqs HB hb; clear hb hbox hg; have hcz4_0 : w3.cell? ⟨gb340, 0, none⟩ = some (.bool true) := (blk_cell BK340.out 0).trans rfl; have hcz4_1 : w3.cell? ⟨gb340, 1, none⟩ = some (.slice A0_1 l0_1.length c0_1) := (blk_cell BK340.out 1).trans rfl; have hcz4_2 : w3.cell? ⟨gb340, 2, none⟩ = some (.slice A0_2 l0_2.length c0_2) := (blk_cell BK340.out 2).trans rfl; have hcz4_3 : w3.cell? ⟨gb340, 3, none⟩ = some (.slice A0_3 l0_3.length c0_3) := (blk_cell BK340.out 3).trans rfl; have hcz4_4 : w3.cell? ⟨gb340, 4, none⟩ = some (.int .i64 a0_4) := (blk_cell BK340.out 4).trans rfl; have hcz4_5 : w3.cell? ⟨gb340, 5, none⟩ = some (.slice A0_5 l0_5.length c0_5) := (blk_cell BK340.out 5).trans rfl; have hfz4_0 := blk_frozen BK340.out 0; have hfz4_1 := blk_frozen BK340.out 1; have hfz4_2 := blk_frozen BK340.out 2; have hfz4_3 := blk_frozen BK340.out 3; have hfz4_4 := blk_frozen BK340.out 4; have hfz4_5 := blk_frozen BK340.out 5))
  go_loopg [44] k (fun kq v44 w' => ∃ (x44_1 : Int), v44 = .int .i64 x44_1 ∧ Aside0 (impl_AbsOk.l0 kq l0_1 (l0_1.length : Int) x44_1 true l0_1 l0_2 l0_3 a0_4 l0_5 = some r) ∧ Aside0 (kq ≤ k) ∧ Aside0 (w'.heap[gb340]? = some (.cells #[.bool true, (.slice A0_1 l0_1.length c0_1), (.slice A0_2 l0_2.length c0_2), (.slice A0_3 l0_3.length c0_3), .int .i64 a0_4, (.slice A0_5 l0_5.length c0_5)] 78 (0, 0))) ∧ Aside0 (Below w.heap.size w w'))
  case atStart => exact ⟨(0), (by first | rfl | (simp; done) | (simp [*]; done)), H', ⟨Nat.le_refl _⟩, sqk BK340, sqh HB⟩
  case round =>
   clear H'
   try clear c2
   try clear p2
   try clear hcz4_0
   try clear hcz4_1
   try clear hcz4_2
   try clear hcz4_3
   try clear hcz4_4
   try clear hcz4_5
   try clear hfz4_0
   try clear hfz4_1
   try clear hfz4_2
   try clear hfz4_3
   try clear hfz4_4
   try clear hfz4_5
   obtain ⟨x44_1, rfl, HA, HK1, BK340, HB⟩ := hrel
   cases gk with
   | zero => exact absurd HA.out (by simp [impl_AbsOk.l0])
   | succ k1 =>
    have H := HA.out
    clear HA
    simp only [impl_AbsOk.l0] at H
    by_cases c5 : x44_1 < (l0_1.length : Int)
    ·rw [if_pos c5] at H
     have c5b0 : decide (x44_1 < (l0_1.length : Int)) = true := decide_eq_true c5
     clear c5
     by_cases c6 : 0 ≤ x44_1
     ·rw [if_pos c6] at H
      have c6b0 : decide (0 ≤ x44_1) = true := decide_eq_true c6
      clear c6
      by_cases c7 : x44_1 < (l0_1.length : Int)
      ·rw [if_pos c7] at H
       have c7b0 : decide (x44_1 < (l0_1.length : Int)) = true := decide_eq_true c7
       clear c7
       replace H := Option.bind_eq_some_iff.mp H
       obtain ⟨t343, A80, H⟩ := H
       replace H : (if t343 = true then (some false) else ((impl_ValOk.f k1 ((rd_T30 l0_1 x44_1).f0) ((rd_T30 l0_1 x44_1).f1) ((rd_T30 l0_1 x44_1).f2) ((rd_T30 l0_1 x44_1).f3)).bind fun t344 => (if t344 = true then (impl_AbsOk.l0 k1 l0_1 (l0_1.length : Int) (wrap64 (x44_1 + 1)) true l0_1 l0_2 l0_3 a0_4 l0_5) else (some false)))) = some r := H
       have A8 := Aside0.mk A80
       clear A80
       by_cases c9 : t343 = true
       ·subst c9
        have H1 : (some false) = some r := by rw [if_pos rfl] at H; exact H
        clear H
        have H := H1
        clear H1
        obtain rfl := Option.some.inj H
        have p341 : 0 ≤ (x44_1 : Int) := of_decide_eq_true (by first | (with_reducible assumption) | assumption)
        have q341 : x44_1 < (l0_1.length : Int) := of_decide_eq_true (by first | (with_reducible assumption) | assumption)
        obtain ⟨ad341, e341, hx341_0, hx341_1, hx341_2, hx341_3⟩ := at_T30 HR0_1.out x44_1 p341 q341
        cases e341
        replace hx341_0 := (HB.out.cell (World.block_lt_of_cell? w _ hx341_0)).trans hx341_0
        replace hx341_1 := (HB.out.cell (World.block_lt_of_cell? w _ hx341_1)).trans hx341_1
        replace hx341_2 := (HB.out.cell (World.block_lt_of_cell? w _ hx341_2)).trans hx341_2
        replace hx341_3 := (HB.out.cell (World.block_lt_of_cell? w _ hx341_3)).trans hx341_3
        replace p341 := eq_true p341
        replace q341 := eq_true q341
        go_wp2_with (first | ((with_reducible refine gate_dst (N := 4) rfl ?_); (try (refine gate_guard (by rfl) ?_; dsimp only)); refine sqx 4 #[.int .i64 0, .int .i64 0, .int .i64 0, .int .i64 0] 30 ?_; intro gb342 hg w10 hbox hb; have BK342 := Aside0.mk (hbox); have GW342 := sqg HB hg; have GE342 := sqg HB hg; have NB340_342 := sqn BK340 hg; have NB342_340 := sqm BK340 hg; replace BK340 := sqb BK340 hb; replace HB := sqs HB hb; clear hb hbox hg; have hnb11 := NB342_340.out; have hnc11 := NB340_342.out; obtain ⟨hcz12_0, hcz12_1, hcz12_2, hcz12_3, hfz12_0, hfz12_1, hfz12_2, hfz12_3⟩ := sqc4 BK342) | ((with_reducible refine gate_callee (f := 144) rfl ?_); refine sqL (some 49) Try.func144 #[.agg #[.int .i64 ((rd_T30 l0_1 x44_1).f0), .int .i64 ((rd_T30 l0_1 x44_1).f1), .int .i64 ((rd_T30 l0_1 x44_1).f2), .int .i64 ((rd_T30 l0_1 x44_1).f3)]] ?_; (with_reducible refine (impl_Val_none.calls ((rd_T30 l0_1 x44_1).f0) ((rd_T30 l0_1 x44_1).f1) ((rd_T30 l0_1 x44_1).f2) ((rd_T30 l0_1 x44_1).f3) true _ A8.out).mono ?_); rintro e w13 ⟨rfl, hb⟩; refine ⟨_, rfl, ?_⟩; have n0_ := Aside0.mk (blk_below (g := gb340) (o := .cells #[.bool true, .slice (some ad341) l0_1.length c0_1, .slice A0_2 l0_2.length c0_2, .slice A0_3 l0_3.length c0_3, .int .i64 a0_4, .slice A0_5 l0_5.length c0_5] 78 (0, 0)) (by refine sqt ?_; refine blk_far ?_ NB340_342.out _; refine sqt ?_; refine blk_far ?_ NB340_342.out _; refine sqt ?_; refine blk_far ?_ NB340_342.out _; refine sqt ?_; refine blk_far ?_ NB340_342.out _; refine sqt ?_; exact BK340.out) hb); have n1_ := Aside0.mk (blk_below (g := gb342) (o := .cells #[.int .i64 ((rd_T30 l0_1 x44_1).f0), .int .i64 ((rd_T30 l0_1 x44_1).f1), .int .i64 ((rd_T30 l0_1 x44_1).f2), .int .i64 ((rd_T30 l0_1 x44_1).f3)] 30 (0, 0)) (by refine sqt ?_; refine blk_put (cs := #[.int .i64 ((rd_T30 l0_1 x44_1).f0), .int .i64 ((rd_T30 l0_1 x44_1).f1), .int .i64 ((rd_T30 l0_1 x44_1).f2), .int .i64 0]) ?_ 3 _ rfl; refine sqt ?_; refine blk_put (cs := #[.int .i64 ((rd_T30 l0_1 x44_1).f0), .int .i64 ((rd_T30 l0_1 x44_1).f1), .int .i64 0, .int .i64 0]) ?_ 2 _ rfl; refine sqt ?_; refine blk_put (cs := #[.int .i64 ((rd_T30 l0_1 x44_1).f0), .int .i64 0, .int .i64 0, .int .i64 0]) ?_ 1 _ rfl; refine sqt ?_; refine blk_put (cs := #[.int .i64 0, .int .i64 0, .int .i64 0, .int .i64 0]) ?_ 0 _ rfl; refine sqt ?_; exact BK342.out) hb); have n2_ := sqs HB hb; clear BK340; clear BK342; clear HB; have BK340 := n0_; have BK342 := n1_; have HB := n2_; clear n0_ n1_ n2_; (try clear hb)))
        go_ret
        exact sqe HB
       ·replace c9 := Bool.eq_false_iff.mpr c9
        subst c9
        have H1 : ((impl_ValOk.f k1 ((rd_T30 l0_1 x44_1).f0) ((rd_T30 l0_1 x44_1).f1) ((rd_T30 l0_1 x44_1).f2) ((rd_T30 l0_1 x44_1).f3)).bind fun t344 => (if t344 = true then (impl_AbsOk.l0 k1 l0_1 (l0_1.length : Int) (wrap64 (x44_1 + 1)) true l0_1 l0_2 l0_3 a0_4 l0_5) else (some false))) = some r := by rw [if_neg (show ¬ (false = true) by decide)] at H; exact H
        clear H
        have H := H1
        clear H1
        replace H := Option.bind_eq_some_iff.mp H
        obtain ⟨t344, A140, H⟩ := H
        replace H : (if t344 = true then (impl_AbsOk.l0 k1 l0_1 (l0_1.length : Int) (wrap64 (x44_1 + 1)) true l0_1 l0_2 l0_3 a0_4 l0_5) else (some false)) = some r := H
        have A14 := Aside0.mk A140
        clear A140
        by_cases c15 : t344 = true
        ·subst c15
         have H1 : (impl_AbsOk.l0 k1 l0_1 (l0_1.length : Int) (wrap64 (x44_1 + 1)) true l0_1 l0_2 l0_3 a0_4 l0_5) = some r := by rw [if_pos rfl] at H; exact H
         clear H
         have H := H1
         clear H1
         have H' := Aside0.mk H
         clear H
         have p341 : 0 ≤ (x44_1 : Int) := of_decide_eq_true (by first | (with_reducible assumption) | assumption)
         have q341 : x44_1 < (l0_1.length : Int) := of_decide_eq_true (by first | (with_reducible assumption) | assumption)
         obtain ⟨ad341, e341, hx341_0, hx341_1, hx341_2, hx341_3⟩ := at_T30 HR0_1.out x44_1 p341 q341
         cases e341
         replace hx341_0 := (HB.out.cell (World.block_lt_of_cell? w _ hx341_0)).trans hx341_0
         replace hx341_1 := (HB.out.cell (World.block_lt_of_cell? w _ hx341_1)).trans hx341_1
         replace hx341_2 := (HB.out.cell (World.block_lt_of_cell? w _ hx341_2)).trans hx341_2
         replace hx341_3 := (HB.out.cell (World.block_lt_of_cell? w _ hx341_3)).trans hx341_3
         replace p341 := eq_true p341
         replace q341 := eq_true q341
         go_wp2_with (first | ((with_reducible refine gate_dst (N := 4) rfl ?_); (try (refine gate_guard (by rfl) ?_; dsimp only)); refine sqx 4 #[.int .i64 0, .int .i64 0, .int .i64 0, .int .i64 0] 30 ?_; intro gb342 hg w16 hbox hb; have BK342 := Aside0.mk (hbox); have GW342 := sqg HB hg; have GE342 := sqg HB hg; have NB340_342 := sqn BK340 hg; have NB342_340 := sqm BK340 hg; replace BK340 := sqb BK340 hb; replace HB := sqs HB hb; clear hb hbox hg; have hnb17 := NB342_340.out; have hnc17 := NB340_342.out; obtain ⟨hcz18_0, hcz18_1, hcz18_2, hcz18_3, hfz18_0, hfz18_1, hfz18_2, hfz18_3⟩ := sqc4 BK342) | ((with_reducible refine gate_callee (f := 144) rfl ?_); refine sqL (some 49) Try.func144 #[.agg #[.int .i64 ((rd_T30 l0_1 x44_1).f0), .int .i64 ((rd_T30 l0_1 x44_1).f1), .int .i64 ((rd_T30 l0_1 x44_1).f2), .int .i64 ((rd_T30 l0_1 x44_1).f3)]] ?_; (with_reducible refine (impl_Val_none.calls ((rd_T30 l0_1 x44_1).f0) ((rd_T30 l0_1 x44_1).f1) ((rd_T30 l0_1 x44_1).f2) ((rd_T30 l0_1 x44_1).f3) false _ A8.out).mono ?_); rintro e w19 ⟨rfl, hb⟩; refine ⟨_, rfl, ?_⟩; have n0_ := Aside0.mk (blk_below (g := gb340) (o := .cells #[.bool true, .slice (some ad341) l0_1.length c0_1, .slice A0_2 l0_2.length c0_2, .slice A0_3 l0_3.length c0_3, .int .i64 a0_4, .slice A0_5 l0_5.length c0_5] 78 (0, 0)) (by refine sqt ?_; refine blk_far ?_ NB340_342.out _; refine sqt ?_; refine blk_far ?_ NB340_342.out _; refine sqt ?_; refine blk_far ?_ NB340_342.out _; refine sqt ?_; refine blk_far ?_ NB340_342.out _; refine sqt ?_; exact BK340.out) hb); have n1_ := Aside0.mk (blk_below (g := gb342) (o := .cells #[.int .i64 ((rd_T30 l0_1 x44_1).f0), .int .i64 ((rd_T30 l0_1 x44_1).f1), .int .i64 ((rd_T30 l0_1 x44_1).f2), .int .i64 ((rd_T30 l0_1 x44_1).f3)] 30 (0, 0)) (by refine sqt ?_; refine blk_put (cs := #[.int .i64 ((rd_T30 l0_1 x44_1).f0), .int .i64 ((rd_T30 l0_1 x44_1).f1), .int .i64 ((rd_T30 l0_1 x44_1).f2), .int .i64 0]) ?_ 3 _ rfl; refine sqt ?_; refine blk_put (cs := #[.int .i64 ((rd_T30 l0_1 x44_1).f0), .int .i64 ((rd_T30 l0_1 x44_1).f1), .int .i64 0, .int .i64 0]) ?_ 2 _ rfl; refine sqt ?_; refine blk_put (cs := #[.int .i64 ((rd_T30 l0_1 x44_1).f0), .int .i64 0, .int .i64 0, .int .i64 0]) ?_ 1 _ rfl; refine sqt ?_; refine blk_put (cs := #[.int .i64 0, .int .i64 0, .int .i64 0, .int .i64 0]) ?_ 0 _ rfl; refine sqt ?_; exact BK342.out) hb); have n2_ := sqs HB hb; clear BK340; clear BK342; clear HB; have BK340 := n0_; have BK342 := n1_; have HB := n2_; clear n0_ n1_ n2_; (try clear hb); obtain ⟨hcz20_0, hcz20_1, hcz20_2, hcz20_3, hfz20_0, hfz20_1, hfz20_2, hfz20_3⟩ := sqc4 BK342) | (go_at_call 18; (with_reducible refine (impl_ValOk.calls k1 ((rd_T30 l0_1 x44_1).f0) ((rd_T30 l0_1 x44_1).f1) ((rd_T30 l0_1 x44_1).f2) ((rd_T30 l0_1 x44_1).f3) true _ A14.out).mono ?_); rintro e w21 ⟨rfl, hb⟩; replace BK340 := sqb BK340 hb; replace BK342 := sqb BK342 hb; replace HB := sqs HB hb; (try clear hb)))
         go_roundg k1
         case measure => have := HK1.out; omega
         case rel => exact ⟨(wrap64 (x44_1 + 1)), (by first | rfl | (simp; done) | (simp [*]; done)), H', ⟨by have := HK1.out; omega⟩, sqk BK340, sqh HB⟩
        ·replace c15 := Bool.eq_false_iff.mpr c15
         subst c15
         have H1 : (some false) = some r := by rw [if_neg (show ¬ (false = true) by decide)] at H; exact H
         clear H
         have H := H1
         clear H1
         obtain rfl := Option.some.inj H
         have p341 : 0 ≤ (x44_1 : Int) := of_decide_eq_true (by first | (with_reducible assumption) | assumption)
         have q341 : x44_1 < (l0_1.length : Int) := of_decide_eq_true (by first | (with_reducible assumption) | assumption)
         obtain ⟨ad341, e341, hx341_0, hx341_1, hx341_2, hx341_3⟩ := at_T30 HR0_1.out x44_1 p341 q341
         cases e341
         replace hx341_0 := (HB.out.cell (World.block_lt_of_cell? w _ hx341_0)).trans hx341_0
         replace hx341_1 := (HB.out.cell (World.block_lt_of_cell? w _ hx341_1)).trans hx341_1
         replace hx341_2 := (HB.out.cell (World.block_lt_of_cell? w _ hx341_2)).trans hx341_2
         replace hx341_3 := (HB.out.cell (World.block_lt_of_cell? w _ hx341_3)).trans hx341_3
         replace p341 := eq_true p341
         replace q341 := eq_true q341
         go_wp2_with (first | ((with_reducible refine gate_dst (N := 4) rfl ?_); (try (refine gate_guard (by rfl) ?_; dsimp only)); refine sqx 4 #[.int .i64 0, .int .i64 0, .int .i64 0, .int .i64 0] 30 ?_; intro gb342 hg w22 hbox hb; have BK342 := Aside0.mk (hbox); have GW342 := sqg HB hg; have GE342 := sqg HB hg; have NB340_342 := sqn BK340 hg; have NB342_340 := sqm BK340 hg; replace BK340 := sqb BK340 hb; replace HB := sqs HB hb; clear hb hbox hg; have hnb23 := NB342_340.out; have hnc23 := NB340_342.out; obtain ⟨hcz24_0, hcz24_1, hcz24_2, hcz24_3, hfz24_0, hfz24_1, hfz24_2, hfz24_3⟩ := sqc4 BK342) | ((with_reducible refine gate_callee (f := 144) rfl ?_); refine sqL (some 49) Try.func144 #[.agg #[.int .i64 ((rd_T30 l0_1 x44_1).f0), .int .i64 ((rd_T30 l0_1 x44_1).f1), .int .i64 ((rd_T30 l0_1 x44_1).f2), .int .i64 ((rd_T30 l0_1 x44_1).f3)]] ?_; (with_reducible refine (impl_Val_none.calls ((rd_T30 l0_1 x44_1).f0) ((rd_T30 l0_1 x44_1).f1) ((rd_T30 l0_1 x44_1).f2) ((rd_T30 l0_1 x44_1).f3) false _ A8.out).mono ?_); rintro e w25 ⟨rfl, hb⟩; refine ⟨_, rfl, ?_⟩; have n0_ := Aside0.mk (blk_below (g := gb340) (o := .cells #[.bool true, .slice (some ad341) l0_1.length c0_1, .slice A0_2 l0_2.length c0_2, .slice A0_3 l0_3.length c0_3, .int .i64 a0_4, .slice A0_5 l0_5.length c0_5] 78 (0, 0)) (by refine sqt ?_; refine blk_far ?_ NB340_342.out _; refine sqt ?_; refine blk_far ?_ NB340_342.out _; refine sqt ?_; refine blk_far ?_ NB340_342.out _; refine sqt ?_; refine blk_far ?_ NB340_342.out _; refine sqt ?_; exact BK340.out) hb); have n1_ := Aside0.mk (blk_below (g := gb342) (o := .cells #[.int .i64 ((rd_T30 l0_1 x44_1).f0), .int .i64 ((rd_T30 l0_1 x44_1).f1), .int .i64 ((rd_T30 l0_1 x44_1).f2), .int .i64 ((rd_T30 l0_1 x44_1).f3)] 30 (0, 0)) (by refine sqt ?_; refine blk_put (cs := #[.int .i64 ((rd_T30 l0_1 x44_1).f0), .int .i64 ((rd_T30 l0_1 x44_1).f1), .int .i64 ((rd_T30 l0_1 x44_1).f2), .int .i64 0]) ?_ 3 _ rfl; refine sqt ?_; refine blk_put (cs := #[.int .i64 ((rd_T30 l0_1 x44_1).f0), .int .i64 ((rd_T30 l0_1 x44_1).f1), .int .i64 0, .int .i64 0]) ?_ 2 _ rfl; refine sqt ?_; refine blk_put (cs := #[.int .i64 ((rd_T30 l0_1 x44_1).f0), .int .i64 0, .int .i64 0, .int .i64 0]) ?_ 1 _ rfl; refine sqt ?_; refine blk_put (cs := #[.int .i64 0, .int .i64 0, .int .i64 0, .int .i64 0]) ?_ 0 _ rfl; refine sqt ?_; exact BK342.out) hb); have n2_ := sqs HB hb; clear BK340; clear BK342; clear HB; have BK340 := n0_; have BK342 := n1_; have HB := n2_; clear n0_ n1_ n2_; (try clear hb); obtain ⟨hcz26_0, hcz26_1, hcz26_2, hcz26_3, hfz26_0, hfz26_1, hfz26_2, hfz26_3⟩ := sqc4 BK342) | (go_at_call 18; (with_reducible refine (impl_ValOk.calls k1 ((rd_T30 l0_1 x44_1).f0) ((rd_T30 l0_1 x44_1).f1) ((rd_T30 l0_1 x44_1).f2) ((rd_T30 l0_1 x44_1).f3) false _ A14.out).mono ?_); rintro e w27 ⟨rfl, hb⟩; replace BK340 := sqb BK340 hb; replace BK342 := sqb BK342 hb; replace HB := sqs HB hb; (try clear hb)))
         go_ret
         exact sqe HB
      ·rw [if_neg c7] at H
       exact absurd H (by simp)
     ·rw [if_neg c6] at H
      exact absurd H (by simp)
    ·rw [if_neg c5] at H
     have c5b0 : decide (x44_1 < (l0_1.length : Int)) = false := decide_eq_false c5
     clear c5
     have H' := Aside0.mk H
     clear H
     have hcz28_0 : wr.cell? ⟨gb340, 0, none⟩ = some (.bool true) := (blk_cell BK340.out 0).trans rfl
     have hcz28_1 : wr.cell? ⟨gb340, 1, none⟩ = some (.slice A0_1 l0_1.length c0_1) := (blk_cell BK340.out 1).trans rfl
     have hcz28_2 : wr.cell? ⟨gb340, 2, none⟩ = some (.slice A0_2 l0_2.length c0_2) := (blk_cell BK340.out 2).trans rfl
     have hcz28_3 : wr.cell? ⟨gb340, 3, none⟩ = some (.slice A0_3 l0_3.length c0_3) := (blk_cell BK340.out 3).trans rfl
     have hcz28_4 : wr.cell? ⟨gb340, 4, none⟩ = some (.int .i64 a0_4) := (blk_cell BK340.out 4).trans rfl
     have hcz28_5 : wr.cell? ⟨gb340, 5, none⟩ = some (.slice A0_5 l0_5.length c0_5) := (blk_cell BK340.out 5).trans rfl
     have hfz28_0 := blk_frozen BK340.out 0
     have hfz28_1 := blk_frozen BK340.out 1
     have hfz28_2 := blk_frozen BK340.out 2
     have hfz28_3 := blk_frozen BK340.out 3
     have hfz28_4 := blk_frozen BK340.out 4
     have hfz28_5 := blk_frozen BK340.out 5
     go_wp2
     go_loopg [59] k1 (fun kq v59 w' => ∃ (x59_2 : Int), v59 = .int .i64 x59_2 ∧ Aside0 (impl_AbsOk.l1 kq l0_3 (l0_3.length : Int) x59_2 true l0_1 l0_2 l0_3 a0_4 l0_5 = some r) ∧ Aside0 (kq ≤ k1) ∧ Aside0 (w'.heap[gb340]? = some (.cells #[.bool true, (.slice A0_1 l0_1.length c0_1), (.slice A0_2 l0_2.length c0_2), (.slice A0_3 l0_3.length c0_3), .int .i64 a0_4, (.slice A0_5 l0_5.length c0_5)] 78 (0, 0))) ∧ Aside0 (Below w.heap.size w w'))
     case atStart => exact ⟨(0), (by first | rfl | (simp; done) | (simp [*]; done)), H', ⟨Nat.le_refl _⟩, sqk BK340, sqh HB⟩
     case round =>
      clear H'
      try clear c1
      try clear c2
      try clear p2
      try clear p3
      try clear q3
      try clear hx3
      try clear c5
      try clear c5b0
      try clear c6
      try clear c6b0
      try clear p6
      try clear c7
      try clear c7b0
      try clear c9
      try clear c11
      try clear c14
      try clear c15
      try clear c17
      try clear c23
      try clear hcz12_0
      try clear hcz12_1
      try clear hcz12_2
      try clear hcz12_3
      try clear hcz18_0
      try clear hcz18_1
      try clear hcz18_2
      try clear hcz18_3
      try clear hcz20_0
      try clear hcz20_1
      try clear hcz20_2
      try clear hcz20_3
      try clear hcz24_0
      try clear hcz24_1
      try clear hcz24_2
      try clear hcz24_3
      try clear hcz26_0
      try clear hcz26_1
      try clear hcz26_2
      try clear hcz26_3
      try clear hcz28_0
      try clear hcz28_1
      try clear hcz28_2
      try clear hcz28_3
      try clear hcz28_4
      try clear hcz28_5
      try clear hcz4_0
      try clear hcz4_1
      try clear hcz4_2
      try clear hcz4_3
      try clear hcz4_4
      try clear hcz4_5
      try clear hfz12_0
      try clear hfz12_1
      try clear hfz12_2
      try clear hfz12_3
      try clear hfz18_0
      try clear hfz18_1
      try clear hfz18_2
      try clear hfz18_3
      try clear hfz20_0
      try clear hfz20_1
      try clear hfz20_2
      try clear hfz20_3
      try clear hfz24_0
      try clear hfz24_1
      try clear hfz24_2
      try clear hfz24_3
      try clear hfz26_0
      try clear hfz26_1
      try clear hfz26_2
      try clear hfz26_3
      try clear hfz28_0
      try clear hfz28_1
      try clear hfz28_2
      try clear hfz28_3
      try clear hfz28_4
      try clear hfz28_5
      try clear hfz4_0
      try clear hfz4_1
      try clear hfz4_2
      try clear hfz4_3
      try clear hfz4_4
      try clear hfz4_5
      try clear hx341_0
      try clear hx341_1
      try clear hx341_2
      try clear hx341_3
      try clear p2
      try clear p341
      try clear q341
      obtain ⟨x59_2, rfl, HA, HK2, BK340, HB⟩ := hrel
      cases gk with
      | zero => exact absurd HA.out (by simp [impl_AbsOk.l1])
      | succ k2 =>
       have H := HA.out
       clear HA
       simp only [impl_AbsOk.l1] at H
       by_cases c29 : x59_2 < (l0_3.length : Int)
       ·rw [if_pos c29] at H
        have c29b0 : decide (x59_2 < (l0_3.length : Int)) = true := decide_eq_true c29
        clear c29
        by_cases c30 : 0 ≤ x59_2
        ·rw [if_pos c30] at H
         have c30b0 : decide (0 ≤ x59_2) = true := decide_eq_true c30
         clear c30
         by_cases c31 : x59_2 < (l0_3.length : Int)
         ·rw [if_pos c31] at H
          have c31b0 : decide (x59_2 < (l0_3.length : Int)) = true := decide_eq_true c31
          clear c31
          replace H := Option.bind_eq_some_iff.mp H
          obtain ⟨t347, A320, H⟩ := H
          replace H : (if t347 = true then (some false) else ((impl_ValOk.f k2 ((rd_T30 l0_3 x59_2).f0) ((rd_T30 l0_3 x59_2).f1) ((rd_T30 l0_3 x59_2).f2) ((rd_T30 l0_3 x59_2).f3)).bind fun t348 => (if t348 = true then (impl_AbsOk.l1 k2 l0_3 (l0_3.length : Int) (wrap64 (x59_2 + 1)) true l0_1 l0_2 l0_3 a0_4 l0_5) else (some false)))) = some r := H
          have A32 := Aside0.mk A320
          clear A320
          by_cases c33 : t347 = true
          ·subst c33
           have H1 : (some false) = some r := by rw [if_pos rfl] at H; exact H
           clear H
           have H := H1
           clear H1
           obtain rfl := Option.some.inj H
           have p345 : 0 ≤ (x59_2 : Int) := of_decide_eq_true (by first | (with_reducible assumption) | assumption)
           have q345 : x59_2 < (l0_3.length : Int) := of_decide_eq_true (by first | (with_reducible assumption) | assumption)
           obtain ⟨ad345, e345, hx345_0, hx345_1, hx345_2, hx345_3⟩ := at_T30 HR0_3.out x59_2 p345 q345
           cases e345
           replace hx345_0 := (HB.out.cell (World.block_lt_of_cell? w _ hx345_0)).trans hx345_0
           replace hx345_1 := (HB.out.cell (World.block_lt_of_cell? w _ hx345_1)).trans hx345_1
           replace hx345_2 := (HB.out.cell (World.block_lt_of_cell? w _ hx345_2)).trans hx345_2
           replace hx345_3 := (HB.out.cell (World.block_lt_of_cell? w _ hx345_3)).trans hx345_3
           replace p345 := eq_true p345
           replace q345 := eq_true q345
           go_wp2_with (first | ((with_reducible refine gate_dst (N := 6) rfl ?_); (try (refine gate_guard (by rfl) ?_; dsimp only)); refine sqx 6 #[.int .i64 0, .int .i64 0, .int .i64 0, .int .i64 0] 30 ?_; intro gb346 hg w34 hbox hb; have BK346 := Aside0.mk (hbox); have GW346 := sqg HB hg; have GE346 := sqg HB hg; have NB340_346 := sqn BK340 hg; have NB346_340 := sqm BK340 hg; replace BK340 := sqb BK340 hb; replace HB := sqs HB hb; clear hb hbox hg; have hnb35 := NB346_340.out; have hnc35 := NB340_346.out; obtain ⟨hcz36_0, hcz36_1, hcz36_2, hcz36_3, hfz36_0, hfz36_1, hfz36_2, hfz36_3⟩ := sqc4 BK346) | ((with_reducible refine gate_callee (f := 144) rfl ?_); refine sqL (some 64) Try.func144 #[.agg #[.int .i64 ((rd_T30 l0_3 x59_2).f0), .int .i64 ((rd_T30 l0_3 x59_2).f1), .int .i64 ((rd_T30 l0_3 x59_2).f2), .int .i64 ((rd_T30 l0_3 x59_2).f3)]] ?_; (with_reducible refine (impl_Val_none.calls ((rd_T30 l0_3 x59_2).f0) ((rd_T30 l0_3 x59_2).f1) ((rd_T30 l0_3 x59_2).f2) ((rd_T30 l0_3 x59_2).f3) true _ A32.out).mono ?_); rintro e w37 ⟨rfl, hb⟩; refine ⟨_, rfl, ?_⟩; have n0_ := Aside0.mk (blk_below (g := gb340) (o := .cells #[.bool true, .slice A0_1 l0_1.length c0_1, .slice A0_2 l0_2.length c0_2, .slice (some ad345) l0_3.length c0_3, .int .i64 a0_4, .slice A0_5 l0_5.length c0_5] 78 (0, 0)) (by refine sqt ?_; refine blk_far ?_ NB340_346.out _; refine sqt ?_; refine blk_far ?_ NB340_346.out _; refine sqt ?_; refine blk_far ?_ NB340_346.out _; refine sqt ?_; refine blk_far ?_ NB340_346.out _; refine sqt ?_; exact BK340.out) hb); have n1_ := Aside0.mk (blk_below (g := gb346) (o := .cells #[.int .i64 ((rd_T30 l0_3 x59_2).f0), .int .i64 ((rd_T30 l0_3 x59_2).f1), .int .i64 ((rd_T30 l0_3 x59_2).f2), .int .i64 ((rd_T30 l0_3 x59_2).f3)] 30 (0, 0)) (by refine sqt ?_; refine blk_put (cs := #[.int .i64 ((rd_T30 l0_3 x59_2).f0), .int .i64 ((rd_T30 l0_3 x59_2).f1), .int .i64 ((rd_T30 l0_3 x59_2).f2), .int .i64 0]) ?_ 3 _ rfl; refine sqt ?_; refine blk_put (cs := #[.int .i64 ((rd_T30 l0_3 x59_2).f0), .int .i64 ((rd_T30 l0_3 x59_2).f1), .int .i64 0, .int .i64 0]) ?_ 2 _ rfl; refine sqt ?_; refine blk_put (cs := #[.int .i64 ((rd_T30 l0_3 x59_2).f0), .int .i64 0, .int .i64 0, .int .i64 0]) ?_ 1 _ rfl; refine sqt ?_; refine blk_put (cs := #[.int .i64 0, .int .i64 0, .int .i64 0, .int .i64 0]) ?_ 0 _ rfl; refine sqt ?_; exact BK346.out) hb); have n2_ := sqs HB hb; clear BK340; clear BK346; clear HB; have BK340 := n0_; have BK346 := n1_; have HB := n2_; clear n0_ n1_ n2_; (try clear hb)))
           go_ret
           exact sqe HB
          ·replace c33 := Bool.eq_false_iff.mpr c33
           subst c33
           have H1 : ((impl_ValOk.f k2 ((rd_T30 l0_3 x59_2).f0) ((rd_T30 l0_3 x59_2).f1) ((rd_T30 l0_3 x59_2).f2) ((rd_T30 l0_3 x59_2).f3)).bind fun t348 => (if t348 = true then (impl_AbsOk.l1 k2 l0_3 (l0_3.length : Int) (wrap64 (x59_2 + 1)) true l0_1 l0_2 l0_3 a0_4 l0_5) else (some false))) = some r := by rw [if_neg (show ¬ (false = true) by decide)] at H; exact H
           clear H
           have H := H1
           clear H1
           replace H := Option.bind_eq_some_iff.mp H
           obtain ⟨t348, A380, H⟩ := H
           replace H : (if t348 = true then (impl_AbsOk.l1 k2 l0_3 (l0_3.length : Int) (wrap64 (x59_2 + 1)) true l0_1 l0_2 l0_3 a0_4 l0_5) else (some false)) = some r := H
           have A38 := Aside0.mk A380
           clear A380
           by_cases c39 : t348 = true
           ·subst c39
            have H1 : (impl_AbsOk.l1 k2 l0_3 (l0_3.length : Int) (wrap64 (x59_2 + 1)) true l0_1 l0_2 l0_3 a0_4 l0_5) = some r := by rw [if_pos rfl] at H; exact H
            clear H
            have H := H1
            clear H1
            have H' := Aside0.mk H
            clear H
            have p345 : 0 ≤ (x59_2 : Int) := of_decide_eq_true (by first | (with_reducible assumption) | assumption)
            have q345 : x59_2 < (l0_3.length : Int) := of_decide_eq_true (by first | (with_reducible assumption) | assumption)
            obtain ⟨ad345, e345, hx345_0, hx345_1, hx345_2, hx345_3⟩ := at_T30 HR0_3.out x59_2 p345 q345
            cases e345
            replace hx345_0 := (HB.out.cell (World.block_lt_of_cell? w _ hx345_0)).trans hx345_0
            replace hx345_1 := (HB.out.cell (World.block_lt_of_cell? w _ hx345_1)).trans hx345_1
            replace hx345_2 := (HB.out.cell (World.block_lt_of_cell? w _ hx345_2)).trans hx345_2
            replace hx345_3 := (HB.out.cell (World.block_lt_of_cell? w _ hx345_3)).trans hx345_3
            replace p345 := eq_true p345
            replace q345 := eq_true q345
            go_wp2_with (first | ((with_reducible refine gate_dst (N := 6) rfl ?_); (try (refine gate_guard (by rfl) ?_; dsimp only)); refine sqx 6 #[.int .i64 0, .int .i64 0, .int .i64 0, .int .i64 0] 30 ?_; intro gb346 hg w40 hbox hb; have BK346 := Aside0.mk (hbox); have GW346 := sqg HB hg; have GE346 := sqg HB hg; have NB340_346 := sqn BK340 hg; have NB346_340 := sqm BK340 hg; replace BK340 := sqb BK340 hb; replace HB := sqs HB hb; clear hb hbox hg; have hnb41 := NB346_340.out; have hnc41 := NB340_346.out; obtain ⟨hcz42_0, hcz42_1, hcz42_2, hcz42_3, hfz42_0, hfz42_1, hfz42_2, hfz42_3⟩ := sqc4 BK346) | ((with_reducible refine gate_callee (f := 144) rfl ?_); refine sqL (some 64) Try.func144 #[.agg #[.int .i64 ((rd_T30 l0_3 x59_2).f0), .int .i64 ((rd_T30 l0_3 x59_2).f1), .int .i64 ((rd_T30 l0_3 x59_2).f2), .int .i64 ((rd_T30 l0_3 x59_2).f3)]] ?_; (with_reducible refine (impl_Val_none.calls ((rd_T30 l0_3 x59_2).f0) ((rd_T30 l0_3 x59_2).f1) ((rd_T30 l0_3 x59_2).f2) ((rd_T30 l0_3 x59_2).f3) false _ A32.out).mono ?_); rintro e w43 ⟨rfl, hb⟩; refine ⟨_, rfl, ?_⟩; have n0_ := Aside0.mk (blk_below (g := gb340) (o := .cells #[.bool true, .slice A0_1 l0_1.length c0_1, .slice A0_2 l0_2.length c0_2, .slice (some ad345) l0_3.length c0_3, .int .i64 a0_4, .slice A0_5 l0_5.length c0_5] 78 (0, 0)) (by refine sqt ?_; refine blk_far ?_ NB340_346.out _; refine sqt ?_; refine blk_far ?_ NB340_346.out _; refine sqt ?_; refine blk_far ?_ NB340_346.out _; refine sqt ?_; refine blk_far ?_ NB340_346.out _; refine sqt ?_; exact BK340.out) hb); have n1_ := Aside0.mk (blk_below (g := gb346) (o := .cells #[.int .i64 ((rd_T30 l0_3 x59_2).f0), .int .i64 ((rd_T30 l0_3 x59_2).f1), .int .i64 ((rd_T30 l0_3 x59_2).f2), .int .i64 ((rd_T30 l0_3 x59_2).f3)] 30 (0, 0)) (by refine sqt ?_; refine blk_put (cs := #[.int .i64 ((rd_T30 l0_3 x59_2).f0), .int .i64 ((rd_T30 l0_3 x59_2).f1), .int .i64 ((rd_T30 l0_3 x59_2).f2), .int .i64 0]) ?_ 3 _ rfl; refine sqt ?_; refine blk_put (cs := #[.int .i64 ((rd_T30 l0_3 x59_2).f0), .int .i64 ((rd_T30 l0_3 x59_2).f1), .int .i64 0, .int .i64 0]) ?_ 2 _ rfl; refine sqt ?_; refine blk_put (cs := #[.int .i64 ((rd_T30 l0_3 x59_2).f0), .int .i64 0, .int .i64 0, .int .i64 0]) ?_ 1 _ rfl; refine sqt ?_; refine blk_put (cs := #[.int .i64 0, .int .i64 0, .int .i64 0, .int .i64 0]) ?_ 0 _ rfl; refine sqt ?_; exact BK346.out) hb); have n2_ := sqs HB hb; clear BK340; clear BK346; clear HB; have BK340 := n0_; have BK346 := n1_; have HB := n2_; clear n0_ n1_ n2_; (try clear hb); obtain ⟨hcz44_0, hcz44_1, hcz44_2, hcz44_3, hfz44_0, hfz44_1, hfz44_2, hfz44_3⟩ := sqc4 BK346) | (go_at_call 18; (with_reducible refine (impl_ValOk.calls k2 ((rd_T30 l0_3 x59_2).f0) ((rd_T30 l0_3 x59_2).f1) ((rd_T30 l0_3 x59_2).f2) ((rd_T30 l0_3 x59_2).f3) true _ A38.out).mono ?_); rintro e w45 ⟨rfl, hb⟩; replace BK340 := sqb BK340 hb; replace BK346 := sqb BK346 hb; replace HB := sqs HB hb; (try clear hb)))
            go_roundg k2
            case measure => have := HK1.out; have := HK2.out; omega
            case rel => exact ⟨(wrap64 (x59_2 + 1)), (by first | rfl | (simp; done) | (simp [*]; done)), H', ⟨by have := HK1.out; have := HK2.out; omega⟩, sqk BK340, sqh HB⟩
           ·replace c39 := Bool.eq_false_iff.mpr c39
            subst c39
            have H1 : (some false) = some r := by rw [if_neg (show ¬ (false = true) by decide)] at H; exact H
            clear H
            have H := H1
            clear H1
            obtain rfl := Option.some.inj H
            have p345 : 0 ≤ (x59_2 : Int) := of_decide_eq_true (by first | (with_reducible assumption) | assumption)
            have q345 : x59_2 < (l0_3.length : Int) := of_decide_eq_true (by first | (with_reducible assumption) | assumption)
            obtain ⟨ad345, e345, hx345_0, hx345_1, hx345_2, hx345_3⟩ := at_T30 HR0_3.out x59_2 p345 q345
            cases e345
            replace hx345_0 := (HB.out.cell (World.block_lt_of_cell? w _ hx345_0)).trans hx345_0
            replace hx345_1 := (HB.out.cell (World.block_lt_of_cell? w _ hx345_1)).trans hx345_1
            replace hx345_2 := (HB.out.cell (World.block_lt_of_cell? w _ hx345_2)).trans hx345_2
            replace hx345_3 := (HB.out.cell (World.block_lt_of_cell? w _ hx345_3)).trans hx345_3
            replace p345 := eq_true p345
            replace q345 := eq_true q345
            go_wp2_with (first | ((with_reducible refine gate_dst (N := 6) rfl ?_); (try (refine gate_guard (by rfl) ?_; dsimp only)); refine sqx 6 #[.int .i64 0, .int .i64 0, .int .i64 0, .int .i64 0] 30 ?_; intro gb346 hg w46 hbox hb; have BK346 := Aside0.mk (hbox); have GW346 := sqg HB hg; have GE346 := sqg HB hg; have NB340_346 := sqn BK340 hg; have NB346_340 := sqm BK340 hg; replace BK340 := sqb BK340 hb; replace HB := sqs HB hb; clear hb hbox hg; have hnb47 := NB346_340.out; have hnc47 := NB340_346.out; obtain ⟨hcz48_0, hcz48_1, hcz48_2, hcz48_3, hfz48_0, hfz48_1, hfz48_2, hfz48_3⟩ := sqc4 BK346) | ((with_reducible refine gate_callee (f := 144) rfl ?_); refine sqL (some 64) Try.func144 #[.agg #[.int .i64 ((rd_T30 l0_3 x59_2).f0), .int .i64 ((rd_T30 l0_3 x59_2).f1), .int .i64 ((rd_T30 l0_3 x59_2).f2), .int .i64 ((rd_T30 l0_3 x59_2).f3)]] ?_; (with_reducible refine (impl_Val_none.calls ((rd_T30 l0_3 x59_2).f0) ((rd_T30 l0_3 x59_2).f1) ((rd_T30 l0_3 x59_2).f2) ((rd_T30 l0_3 x59_2).f3) false _ A32.out).mono ?_); rintro e w49 ⟨rfl, hb⟩; refine ⟨_, rfl, ?_⟩; have n0_ := Aside0.mk (blk_below (g := gb340) (o := .cells #[.bool true, .slice A0_1 l0_1.length c0_1, .slice A0_2 l0_2.length c0_2, .slice (some ad345) l0_3.length c0_3, .int .i64 a0_4, .slice A0_5 l0_5.length c0_5] 78 (0, 0)) (by refine sqt ?_; refine blk_far ?_ NB340_346.out _; refine sqt ?_; refine blk_far ?_ NB340_346.out _; refine sqt ?_; refine blk_far ?_ NB340_346.out _; refine sqt ?_; refine blk_far ?_ NB340_346.out _; refine sqt ?_; exact BK340.out) hb); have n1_ := Aside0.mk (blk_below (g := gb346) (o := .cells #[.int .i64 ((rd_T30 l0_3 x59_2).f0), .int .i64 ((rd_T30 l0_3 x59_2).f1), .int .i64 ((rd_T30 l0_3 x59_2).f2), .int .i64 ((rd_T30 l0_3 x59_2).f3)] 30 (0, 0)) (by refine sqt ?_; refine blk_put (cs := #[.int .i64 ((rd_T30 l0_3 x59_2).f0), .int .i64 ((rd_T30 l0_3 x59_2).f1), .int .i64 ((rd_T30 l0_3 x59_2).f2), .int .i64 0]) ?_ 3 _ rfl; refine sqt ?_; refine blk_put (cs := #[.int .i64 ((rd_T30 l0_3 x59_2).f0), .int .i64 ((rd_T30 l0_3 x59_2).f1), .int .i64 0, .int .i64 0]) ?_ 2 _ rfl; refine sqt ?_; refine blk_put (cs := #[.int .i64 ((rd_T30 l0_3 x59_2).f0), .int .i64 0, .int .i64 0, .int .i64 0]) ?_ 1 _ rfl; refine sqt ?_; refine blk_put (cs := #[.int .i64 0, .int .i64 0, .int .i64 0, .int .i64 0]) ?_ 0 _ rfl; refine sqt ?_; exact BK346.out) hb); have n2_ := sqs HB hb; clear BK340; clear BK346; clear HB; have BK340 := n0_; have BK346 := n1_; have HB := n2_; clear n0_ n1_ n2_; (try clear hb); obtain ⟨hcz50_0, hcz50_1, hcz50_2, hcz50_3, hfz50_0, hfz50_1, hfz50_2, hfz50_3⟩ := sqc4 BK346) | (go_at_call 18; (with_reducible refine (impl_ValOk.calls k2 ((rd_T30 l0_3 x59_2).f0) ((rd_T30 l0_3 x59_2).f1) ((rd_T30 l0_3 x59_2).f2) ((rd_T30 l0_3 x59_2).f3) false _ A38.out).mono ?_); rintro e w51 ⟨rfl, hb⟩; replace BK340 := sqb BK340 hb; replace BK346 := sqb BK346 hb; replace HB := sqs HB hb; (try clear hb)))
            go_ret
            exact sqe HB
         ·rw [if_neg c31] at H
          exact absurd H (by simp)
        ·rw [if_neg c30] at H
         exact absurd H (by simp)
       ·rw [if_neg c29] at H
        have c29b0 : decide (x59_2 < (l0_3.length : Int)) = false := decide_eq_false c29
        clear c29
        have H' := Aside0.mk H
        clear H
        have hcz52_0 : wr.cell? ⟨gb340, 0, none⟩ = some (.bool true) := (blk_cell BK340.out 0).trans rfl
        have hcz52_1 : wr.cell? ⟨gb340, 1, none⟩ = some (.slice A0_1 l0_1.length c0_1) := (blk_cell BK340.out 1).trans rfl
        have hcz52_2 : wr.cell? ⟨gb340, 2, none⟩ = some (.slice A0_2 l0_2.length c0_2) := (blk_cell BK340.out 2).trans rfl
        have hcz52_3 : wr.cell? ⟨gb340, 3, none⟩ = some (.slice A0_3 l0_3.length c0_3) := (blk_cell BK340.out 3).trans rfl
        have hcz52_4 : wr.cell? ⟨gb340, 4, none⟩ = some (.int .i64 a0_4) := (blk_cell BK340.out 4).trans rfl
        have hcz52_5 : wr.cell? ⟨gb340, 5, none⟩ = some (.slice A0_5 l0_5.length c0_5) := (blk_cell BK340.out 5).trans rfl
        have hfz52_0 := blk_frozen BK340.out 0
        have hfz52_1 := blk_frozen BK340.out 1
        have hfz52_2 := blk_frozen BK340.out 2
        have hfz52_3 := blk_frozen BK340.out 3
        have hfz52_4 := blk_frozen BK340.out 4
        have hfz52_5 := blk_frozen BK340.out 5
        go_wp2
        go_loopg [74] k2 (fun kq v74 w' => ∃ (x74_3 : Int), v74 = .int .i64 x74_3 ∧ Aside0 (impl_AbsOk.l2 kq l0_2 (l0_2.length : Int) x74_3 true l0_1 l0_2 l0_3 a0_4 l0_5 = some r) ∧ Aside0 (kq ≤ k2) ∧ Aside0 (w'.heap[gb340]? = some (.cells #[.bool true, (.slice A0_1 l0_1.length c0_1), (.slice A0_2 l0_2.length c0_2), (.slice A0_3 l0_3.length c0_3), .int .i64 a0_4, (.slice A0_5 l0_5.length c0_5)] 78 (0, 0))) ∧ Aside0 (Below w.heap.size w w'))
        case atStart => exact ⟨(0), (by first | rfl | (simp; done) | (simp [*]; done)), H', ⟨Nat.le_refl _⟩, sqk BK340, sqh HB⟩
        case round =>
         clear H'
         try clear c1
         try clear c2
         try clear p2
         try clear c3
         try clear p3
         try clear q3
         try clear hx3
         try clear c4
         try clear c5
         try clear c5b0
         try clear c6
         try clear c6b0
         try clear p6
         try clear c7
         try clear c7b0
         try clear c9
         try clear c11
         try clear c14
         try clear c15
         try clear c17
         try clear c23
         try clear c29
         try clear c29b0
         try clear c30
         try clear c30b0
         try clear c31
         try clear c31b0
         try clear c33
         try clear p34
         try clear q34
         try clear hx34
         try clear c35
         try clear c39
         try clear c41
         try clear c47
         try clear hcz12_0
         try clear hcz12_1
         try clear hcz12_2
         try clear hcz12_3
         try clear hcz18_0
         try clear hcz18_1
         try clear hcz18_2
         try clear hcz18_3
         try clear hcz20_0
         try clear hcz20_1
         try clear hcz20_2
         try clear hcz20_3
         try clear hcz24_0
         try clear hcz24_1
         try clear hcz24_2
         try clear hcz24_3
         try clear hcz26_0
         try clear hcz26_1
         try clear hcz26_2
         try clear hcz26_3
         try clear hcz28_0
         try clear hcz28_1
         try clear hcz28_2
         try clear hcz28_3
         try clear hcz28_4
         try clear hcz28_5
         try clear hcz36_0
         try clear hcz36_1
         try clear hcz36_2
         try clear hcz36_3
         try clear hcz42_0
         try clear hcz42_1
         try clear hcz42_2
         try clear hcz42_3
         try clear hcz44_0
         try clear hcz44_1
         try clear hcz44_2
         try clear hcz44_3
         try clear hcz48_0
         try clear hcz48_1
         try clear hcz48_2
         try clear hcz48_3
         try clear hcz4_0
         try clear hcz4_1
         try clear hcz4_2
         try clear hcz4_3
         try clear hcz4_4
         try clear hcz4_5
         try clear hcz50_0
         try clear hcz50_1
         try clear hcz50_2
         try clear hcz50_3
         try clear hcz52_0
         try clear hcz52_1
         try clear hcz52_2
         try clear hcz52_3
         try clear hcz52_4
         try clear hcz52_5
         try clear hfz12_0
         try clear hfz12_1
         try clear hfz12_2
         try clear hfz12_3
         try clear hfz18_0
         try clear hfz18_1
         try clear hfz18_2
         try clear hfz18_3
         try clear hfz20_0
         try clear hfz20_1
         try clear hfz20_2
         try clear hfz20_3
         try clear hfz24_0
         try clear hfz24_1
         try clear hfz24_2
         try clear hfz24_3
         try clear hfz26_0
         try clear hfz26_1
         try clear hfz26_2
         try clear hfz26_3
         try clear hfz28_0
         try clear hfz28_1
         try clear hfz28_2
         try clear hfz28_3
         try clear hfz28_4
         try clear hfz28_5
         try clear hfz36_0
         try clear hfz36_1
         try clear hfz36_2
         try clear hfz36_3
         try clear hfz42_0
         try clear hfz42_1
         try clear hfz42_2
         try clear hfz42_3
         try clear hfz44_0
         try clear hfz44_1
         try clear hfz44_2
         try clear hfz44_3
         try clear hfz48_0
         try clear hfz48_1
         try clear hfz48_2
         try clear hfz48_3
         try clear hfz4_0
         try clear hfz4_1
         try clear hfz4_2
         try clear hfz4_3
         try clear hfz4_4
         try clear hfz4_5
         try clear hfz50_0
         try clear hfz50_1
         try clear hfz50_2
         try clear hfz50_3
         try clear hfz52_0
         try clear hfz52_1
         try clear hfz52_2
         try clear hfz52_3
         try clear hfz52_4
         try clear hfz52_5
         try clear hx341_0
         try clear hx341_1
         try clear hx341_2
         try clear hx341_3
         try clear hx345_0
         try clear hx345_1
         try clear hx345_2
         try clear hx345_3
         try clear p2
         try clear p3
         try clear p341
         try clear p345
         try clear p6
         try clear q3
         try clear q341
         try clear q345
         obtain ⟨x74_3, rfl, HA, HK3, BK340, HB⟩ := hrel
         cases gk with
         | zero => exact absurd HA.out (by simp [impl_AbsOk.l2])
         | succ k3 =>
          have H := HA.out
          clear HA
          simp only [impl_AbsOk.l2] at H
          by_cases c53 : x74_3 < (l0_2.length : Int)
          ·rw [if_pos c53] at H
           have c53b0 : decide (x74_3 < (l0_2.length : Int)) = true := decide_eq_true c53
           clear c53
           by_cases c54 : 0 ≤ x74_3
           ·rw [if_pos c54] at H
            have c54b0 : decide (0 ≤ x74_3) = true := decide_eq_true c54
            clear c54
            by_cases c55 : x74_3 < (l0_2.length : Int)
            ·rw [if_pos c55] at H
             have c55b0 : decide (x74_3 < (l0_2.length : Int)) = true := decide_eq_true c55
             clear c55
             replace H := Option.bind_eq_some_iff.mp H
             obtain ⟨t351, A560, H⟩ := H
             replace H : (if t351 = true then (impl_AbsOk.l2 k3 l0_2 (l0_2.length : Int) (wrap64 (x74_3 + 1)) true l0_1 l0_2 l0_3 a0_4 l0_5) else (some false)) = some r := H
             have A56 := Aside0.mk A560
             clear A560
             by_cases c57 : t351 = true
             ·subst c57
              have H1 : (impl_AbsOk.l2 k3 l0_2 (l0_2.length : Int) (wrap64 (x74_3 + 1)) true l0_1 l0_2 l0_3 a0_4 l0_5) = some r := by rw [if_pos rfl] at H; exact H
              clear H
              have H := H1
              clear H1
              have H' := Aside0.mk H
              clear H
              have p349 : 0 ≤ (x74_3 : Int) := of_decide_eq_true (by first | (with_reducible assumption) | assumption)
              have q349 : x74_3 < (l0_2.length : Int) := of_decide_eq_true (by first | (with_reducible assumption) | assumption)
              obtain ⟨ad349, A349_1, c349_1, e349, hx349_0, hx349_1, hx349_2, hx349_3, hx349_4, hx349_5, hl349_1, hi349_1⟩ := at_T132 HR0_2.out x74_3 p349 q349
              cases e349
              replace hx349_0 := (HB.out.cell (World.block_lt_of_cell? w _ hx349_0)).trans hx349_0
              replace hx349_1 := (HB.out.cell (World.block_lt_of_cell? w _ hx349_1)).trans hx349_1
              replace hx349_2 := (HB.out.cell (World.block_lt_of_cell? w _ hx349_2)).trans hx349_2
              replace hx349_3 := (HB.out.cell (World.block_lt_of_cell? w _ hx349_3)).trans hx349_3
              replace hx349_4 := (HB.out.cell (World.block_lt_of_cell? w _ hx349_4)).trans hx349_4
              replace hx349_5 := (HB.out.cell (World.block_lt_of_cell? w _ hx349_5)).trans hx349_5
              have HR349_1 := Aside0.mk hi349_1
              have HC349_1 := Aside0.mk hl349_1
              clear hi349_1 hl349_1
              replace p349 := eq_true p349
              replace q349 := eq_true q349
              go_wp2_with (first | ((with_reducible refine gate_dst (N := 8) rfl ?_); (try (refine gate_guard (by rfl) ?_; dsimp only)); refine sqx 8 #[.bool false, .slice none 0 0, .int .i64 0, .int .i64 0, .int .i64 0, .int .i64 0] 132 ?_; intro gb350 hg w58 hbox hb; have BK350 := Aside0.mk (hbox); have GW350 := sqg HB hg; have GE350 := sqg HB hg; have NB340_350 := sqn BK340 hg; have NB350_340 := sqm BK340 hg; replace BK340 := sqb BK340 hb; replace HB := sqs HB hb; clear hb hbox hg; have hnb59 := NB350_340.out; have hnc59 := NB340_350.out; have hcz60_0 : w58.cell? ⟨gb350, 0, none⟩ = some (.bool false) := (blk_cell BK350.out 0).trans rfl; have hcz60_1 : w58.cell? ⟨gb350, 1, none⟩ = some (.slice none 0 0) := (blk_cell BK350.out 1).trans rfl; have hcz60_2 : w58.cell? ⟨gb350, 2, none⟩ = some (.int .i64 0) := (blk_cell BK350.out 2).trans rfl; have hcz60_3 : w58.cell? ⟨gb350, 3, none⟩ = some (.int .i64 0) := (blk_cell BK350.out 3).trans rfl; have hcz60_4 : w58.cell? ⟨gb350, 4, none⟩ = some (.int .i64 0) := (blk_cell BK350.out 4).trans rfl; have hcz60_5 : w58.cell? ⟨gb350, 5, none⟩ = some (.int .i64 0) := (blk_cell BK350.out 5).trans rfl; have hfz60_0 := blk_frozen BK350.out 0; have hfz60_1 := blk_frozen BK350.out 1; have hfz60_2 := blk_frozen BK350.out 2; have hfz60_3 := blk_frozen BK350.out 3; have hfz60_4 := blk_frozen BK350.out 4; have hfz60_5 := blk_frozen BK350.out 5) | ((with_reducible refine gate_callee (f := 145) rfl ?_); refine sqL (some 79) Try.func145 #[.agg #[.bool ((rd_T132 l0_2 x74_3).f0), .slice A349_1 ((rd_T132 l0_2 x74_3).f1).length c349_1, .int .i64 ((rd_T132 l0_2 x74_3).f2.f0), .int .i64 ((rd_T132 l0_2 x74_3).f2.f1), .int .i64 ((rd_T132 l0_2 x74_3).f2.f2), .int .i64 ((rd_T132 l0_2 x74_3).f2.f3)]] ?_; (with_reducible refine (impl_refOk.calls k3 ((rd_T132 l0_2 x74_3).f0) _ _ ((rd_T132 l0_2 x74_3).f1) ((rd_T132 l0_2 x74_3).f2.f0) ((rd_T132 l0_2 x74_3).f2.f1) ((rd_T132 l0_2 x74_3).f2.f2) ((rd_T132 l0_2 x74_3).f2.f3) true _ ?side1 ?side2 A56.out).mono ?_); (case side1 => exact Kd.C_below HR349_1.out (by repeat (first | (with_reducible first | exact HB.out | apply below_alloc | apply pw_below_drewN | apply below_drew1 | refine below_set ?_ GE340.out | refine below_set ?_ GE350.out) | exact HB.out))); (case side2 => exact HC349_1.out); rintro e w61 ⟨rfl, hb⟩; refine ⟨_, rfl, ?_⟩; have n0_ := Aside0.mk (blk_below (g := gb340) (o := .cells #[.bool true, .slice A0_1 l0_1.length c0_1, .slice (some ad349) l0_2.length c0_2, .slice A0_3 l0_3.length c0_3, .int .i64 a0_4, .slice A0_5 l0_5.length c0_5] 78 (0, 0)) (by refine sqt ?_; refine blk_far ?_ NB340_350.out _; refine sqt ?_; refine blk_far ?_ NB340_350.out _; refine sqt ?_; refine blk_far ?_ NB340_350.out _; refine sqt ?_; refine blk_far ?_ NB340_350.out _; refine sqt ?_; refine blk_far ?_ NB340_350.out _; refine sqt ?_; refine blk_far ?_ NB340_350.out _; refine sqt ?_; exact BK340.out) hb); have n1_ := Aside0.mk (blk_below (g := gb350) (o := .cells #[.bool ((rd_T132 l0_2 x74_3).f0), .slice A349_1 ((rd_T132 l0_2 x74_3).f1).length c349_1, .int .i64 ((rd_T132 l0_2 x74_3).f2.f0), .int .i64 ((rd_T132 l0_2 x74_3).f2.f1), .int .i64 ((rd_T132 l0_2 x74_3).f2.f2), .int .i64 ((rd_T132 l0_2 x74_3).f2.f3)] 132 (0, 0)) (by refine sqt ?_; refine blk_put (cs := #[.bool ((rd_T132 l0_2 x74_3).f0), .slice A349_1 ((rd_T132 l0_2 x74_3).f1).length c349_1, .int .i64 ((rd_T132 l0_2 x74_3).f2.f0), .int .i64 ((rd_T132 l0_2 x74_3).f2.f1), .int .i64 ((rd_T132 l0_2 x74_3).f2.f2), .int .i64 0]) ?_ 5 _ rfl; refine sqt ?_; refine blk_put (cs := #[.bool ((rd_T132 l0_2 x74_3).f0), .slice A349_1 ((rd_T132 l0_2 x74_3).f1).length c349_1, .int .i64 ((rd_T132 l0_2 x74_3).f2.f0), .int .i64 ((rd_T132 l0_2 x74_3).f2.f1), .int .i64 0, .int .i64 0]) ?_ 4 _ rfl; refine sqt ?_; refine blk_put (cs := #[.bool ((rd_T132 l0_2 x74_3).f0), .slice A349_1 ((rd_T132 l0_2 x74_3).f1).length c349_1, .int .i64 ((rd_T132 l0_2 x74_3).f2.f0), .int .i64 0, .int .i64 0, .int .i64 0]) ?_ 3 _ rfl; refine sqt ?_; refine blk_put (cs := #[.bool ((rd_T132 l0_2 x74_3).f0), .slice A349_1 ((rd_T132 l0_2 x74_3).f1).length c349_1, .int .i64 0, .int .i64 0, .int .i64 0, .int .i64 0]) ?_ 2 _ rfl; refine sqt ?_; refine blk_put (cs := #[.bool ((rd_T132 l0_2 x74_3).f0), .slice none 0 0, .int .i64 0, .int .i64 0, .int .i64 0, .int .i64 0]) ?_ 1 _ rfl; refine sqt ?_; refine blk_put (cs := #[.bool false, .slice none 0 0, .int .i64 0, .int .i64 0, .int .i64 0, .int .i64 0]) ?_ 0 _ rfl; refine sqt ?_; exact BK350.out) hb); have n2_ := sqs HB hb; clear BK340; clear BK350; clear HB; have BK340 := n0_; have BK350 := n1_; have HB := n2_; clear n0_ n1_ n2_; (try clear hb)))
              go_roundg k3
              case measure => have := HK1.out; have := HK2.out; have := HK3.out; omega
              case rel => exact ⟨(wrap64 (x74_3 + 1)), (by first | rfl | (simp; done) | (simp [*]; done)), H', ⟨by have := HK1.out; have := HK2.out; have := HK3.out; omega⟩, sqk BK340, sqh HB⟩
             ·replace c57 := Bool.eq_false_iff.mpr c57
              subst c57
              have H1 : (some false) = some r := by rw [if_neg (show ¬ (false = true) by decide)] at H; exact H
              clear H
              have H := H1
              clear H1
              obtain rfl := Option.some.inj H
              have p349 : 0 ≤ (x74_3 : Int) := of_decide_eq_true (by first | (with_reducible assumption) | assumption)
              have q349 : x74_3 < (l0_2.length : Int) := of_decide_eq_true (by first | (with_reducible assumption) | assumption)
              obtain ⟨ad349, A349_1, c349_1, e349, hx349_0, hx349_1, hx349_2, hx349_3, hx349_4, hx349_5, hl349_1, hi349_1⟩ := at_T132 HR0_2.out x74_3 p349 q349
              cases e349
              replace hx349_0 := (HB.out.cell (World.block_lt_of_cell? w _ hx349_0)).trans hx349_0
              replace hx349_1 := (HB.out.cell (World.block_lt_of_cell? w _ hx349_1)).trans hx349_1
              replace hx349_2 := (HB.out.cell (World.block_lt_of_cell? w _ hx349_2)).trans hx349_2
              replace hx349_3 := (HB.out.cell (World.block_lt_of_cell? w _ hx349_3)).trans hx349_3
              replace hx349_4 := (HB.out.cell (World.block_lt_of_cell? w _ hx349_4)).trans hx349_4
              replace hx349_5 := (HB.out.cell (World.block_lt_of_cell? w _ hx349_5)).trans hx349_5
              have HR349_1 := Aside0.mk hi349_1
              have HC349_1 := Aside0.mk hl349_1
              clear hi349_1 hl349_1
              replace p349 := eq_true p349
              replace q349 := eq_true q349
              go_wp2_with (first | ((with_reducible refine gate_dst (N := 8) rfl ?_); (try (refine gate_guard (by rfl) ?_; dsimp only)); refine sqx 8 #[.bool false, .slice none 0 0, .int .i64 0, .int .i64 0, .int .i64 0, .int .i64 0] 132 ?_; intro gb350 hg w62 hbox hb; have BK350 := Aside0.mk (hbox); have GW350 := sqg HB hg; have GE350 := sqg HB hg; have NB340_350 := sqn BK340 hg; have NB350_340 := sqm BK340 hg; replace BK340 := sqb BK340 hb; replace HB := sqs HB hb; clear hb hbox hg; have hnb63 := NB350_340.out; have hnc63 := NB340_350.out; have hcz64_0 : w62.cell? ⟨gb350, 0, none⟩ = some (.bool false) := (blk_cell BK350.out 0).trans rfl; have hcz64_1 : w62.cell? ⟨gb350, 1, none⟩ = some (.slice none 0 0) := (blk_cell BK350.out 1).trans rfl; have hcz64_2 : w62.cell? ⟨gb350, 2, none⟩ = some (.int .i64 0) := (blk_cell BK350.out 2).trans rfl; have hcz64_3 : w62.cell? ⟨gb350, 3, none⟩ = some (.int .i64 0) := (blk_cell BK350.out 3).trans rfl; have hcz64_4 : w62.cell? ⟨gb350, 4, none⟩ = some (.int .i64 0) := (blk_cell BK350.out 4).trans rfl; have hcz64_5 : w62.cell? ⟨gb350, 5, none⟩ = some (.int .i64 0) := (blk_cell BK350.out 5).trans rfl; have hfz64_0 := blk_frozen BK350.out 0; have hfz64_1 := blk_frozen BK350.out 1; have hfz64_2 := blk_frozen BK350.out 2; have hfz64_3 := blk_frozen BK350.out 3; have hfz64_4 := blk_frozen BK350.out 4; have hfz64_5 := blk_frozen BK350.out 5) | ((with_reducible refine gate_callee (f := 145) rfl ?_); refine sqL (some 79) Try.func145 #[.agg #[.bool ((rd_T132 l0_2 x74_3).f0), .slice A349_1 ((rd_T132 l0_2 x74_3).f1).length c349_1, .int .i64 ((rd_T132 l0_2 x74_3).f2.f0), .int .i64 ((rd_T132 l0_2 x74_3).f2.f1), .int .i64 ((rd_T132 l0_2 x74_3).f2.f2), .int .i64 ((rd_T132 l0_2 x74_3).f2.f3)]] ?_; (with_reducible refine (impl_refOk.calls k3 ((rd_T132 l0_2 x74_3).f0) _ _ ((rd_T132 l0_2 x74_3).f1) ((rd_T132 l0_2 x74_3).f2.f0) ((rd_T132 l0_2 x74_3).f2.f1) ((rd_T132 l0_2 x74_3).f2.f2) ((rd_T132 l0_2 x74_3).f2.f3) false _ ?side1 ?side2 A56.out).mono ?_); (case side1 => exact Kd.C_below HR349_1.out (by repeat (first | (with_reducible first | exact HB.out | apply below_alloc | apply pw_below_drewN | apply below_drew1 | refine below_set ?_ GE340.out | refine below_set ?_ GE350.out) | exact HB.out))); (case side2 => exact HC349_1.out); rintro e w65 ⟨rfl, hb⟩; refine ⟨_, rfl, ?_⟩; have n0_ := Aside0.mk (blk_below (g := gb340) (o := .cells #[.bool true, .slice A0_1 l0_1.length c0_1, .slice (some ad349) l0_2.length c0_2, .slice A0_3 l0_3.length c0_3, .int .i64 a0_4, .slice A0_5 l0_5.length c0_5] 78 (0, 0)) (by refine sqt ?_; refine blk_far ?_ NB340_350.out _; refine sqt ?_; refine blk_far ?_ NB340_350.out _; refine sqt ?_; refine blk_far ?_ NB340_350.out _; refine sqt ?_; refine blk_far ?_ NB340_350.out _; refine sqt ?_; refine blk_far ?_ NB340_350.out _; refine sqt ?_; refine blk_far ?_ NB340_350.out _; refine sqt ?_; exact BK340.out) hb); have n1_ := Aside0.mk (blk_below (g := gb350) (o := .cells #[.bool ((rd_T132 l0_2 x74_3).f0), .slice A349_1 ((rd_T132 l0_2 x74_3).f1).length c349_1, .int .i64 ((rd_T132 l0_2 x74_3).f2.f0), .int .i64 ((rd_T132 l0_2 x74_3).f2.f1), .int .i64 ((rd_T132 l0_2 x74_3).f2.f2), .int .i64 ((rd_T132 l0_2 x74_3).f2.f3)] 132 (0, 0)) (by refine sqt ?_; refine blk_put (cs := #[.bool ((rd_T132 l0_2 x74_3).f0), .slice A349_1 ((rd_T132 l0_2 x74_3).f1).length c349_1, .int .i64 ((rd_T132 l0_2 x74_3).f2.f0), .int .i64 ((rd_T132 l0_2 x74_3).f2.f1), .int .i64 ((rd_T132 l0_2 x74_3).f2.f2), .int .i64 0]) ?_ 5 _ rfl; refine sqt ?_; refine blk_put (cs := #[.bool ((rd_T132 l0_2 x74_3).f0), .slice A349_1 ((rd_T132 l0_2 x74_3).f1).length c349_1, .int .i64 ((rd_T132 l0_2 x74_3).f2.f0), .int .i64 ((rd_T132 l0_2 x74_3).f2.f1), .int .i64 0, .int .i64 0]) ?_ 4 _ rfl; refine sqt ?_; refine blk_put (cs := #[.bool ((rd_T132 l0_2 x74_3).f0), .slice A349_1 ((rd_T132 l0_2 x74_3).f1).length c349_1, .int .i64 ((rd_T132 l0_2 x74_3).f2.f0), .int .i64 0, .int .i64 0, .int .i64 0]) ?_ 3 _ rfl; refine sqt ?_; refine blk_put (cs := #[.bool ((rd_T132 l0_2 x74_3).f0), .slice A349_1 ((rd_T132 l0_2 x74_3).f1).length c349_1, .int .i64 0, .int .i64 0, .int .i64 0, .int .i64 0]) ?_ 2 _ rfl; refine sqt ?_; refine blk_put (cs := #[.bool ((rd_T132 l0_2 x74_3).f0), .slice none 0 0, .int .i64 0, .int .i64 0, .int .i64 0, .int .i64 0]) ?_ 1 _ rfl; refine sqt ?_; refine blk_put (cs := #[.bool false, .slice none 0 0, .int .i64 0, .int .i64 0, .int .i64 0, .int .i64 0]) ?_ 0 _ rfl; refine sqt ?_; exact BK350.out) hb); have n2_ := sqs HB hb; clear BK340; clear BK350; clear HB; have BK340 := n0_; have BK350 := n1_; have HB := n2_; clear n0_ n1_ n2_; (try clear hb)))
              go_ret
              exact sqe HB
            ·rw [if_neg c55] at H
             exact absurd H (by simp)
           ·rw [if_neg c54] at H
            exact absurd H (by simp)
          ·rw [if_neg c53] at H
           have c53b0 : decide (x74_3 < (l0_2.length : Int)) = false := decide_eq_false c53
           clear c53
           replace H := Option.bind_eq_some_iff.mp H
           obtain ⟨t352, A660, H⟩ := H
           replace H : (if t352 = true then (some (a0_4 == (l0_1.length : Int))) else (some false)) = some r := H
           have A66 := Aside0.mk A660
           clear A660
           by_cases c67 : t352 = true
           ·subst c67
            have H1 : (some (a0_4 == (l0_1.length : Int))) = some r := by rw [if_pos rfl] at H; exact H
            clear H
            have H := H1
            clear H1
            obtain rfl := Option.some.inj H
            have hcz68_0 : wr.cell? ⟨gb340, 0, none⟩ = some (.bool true) := (blk_cell BK340.out 0).trans rfl
            have hcz68_1 : wr.cell? ⟨gb340, 1, none⟩ = some (.slice A0_1 l0_1.length c0_1) := (blk_cell BK340.out 1).trans rfl
            have hcz68_2 : wr.cell? ⟨gb340, 2, none⟩ = some (.slice A0_2 l0_2.length c0_2) := (blk_cell BK340.out 2).trans rfl
            have hcz68_3 : wr.cell? ⟨gb340, 3, none⟩ = some (.slice A0_3 l0_3.length c0_3) := (blk_cell BK340.out 3).trans rfl
            have hcz68_4 : wr.cell? ⟨gb340, 4, none⟩ = some (.int .i64 a0_4) := (blk_cell BK340.out 4).trans rfl
            have hcz68_5 : wr.cell? ⟨gb340, 5, none⟩ = some (.slice A0_5 l0_5.length c0_5) := (blk_cell BK340.out 5).trans rfl
            have hfz68_0 := blk_frozen BK340.out 0
            have hfz68_1 := blk_frozen BK340.out 1
            have hfz68_2 := blk_frozen BK340.out 2
            have hfz68_3 := blk_frozen BK340.out 3
            have hfz68_4 := blk_frozen BK340.out 4
            have hfz68_5 := blk_frozen BK340.out 5
            go_wp2_with (first | ((with_reducible refine gate_callee (f := 31) rfl ?_); refine sqL (some 84) Try.func31 #[.agg #[.int .i64 a0_4, .slice A0_5 l0_5.length c0_5]] ?_; (with_reducible refine (impl_GapsOk.calls k3 a0_4 _ _ l0_5 true _ ?side1 ?side2 A66.out).mono ?_); (case side1 => repeat (first | exact (Kd.C_below HR0_5.out HB.out) | (with_reducible refine Kd.C_alloc ?_ _) | (with_reducible refine Kd.C_drewN ?_ _) | (with_reducible refine Kd.C_drew ?_))); (case side2 => exact HC0_5.out); rintro e w69 ⟨rfl, hb⟩; refine ⟨_, rfl, ?_⟩; replace BK340 := sqb BK340 hb; replace HB := sqs HB hb; (try clear hb); have hcz70_0 : w69.cell? ⟨gb340, 0, none⟩ = some (.bool true) := (blk_cell BK340.out 0).trans rfl; have hcz70_1 : w69.cell? ⟨gb340, 1, none⟩ = some (.slice A0_1 l0_1.length c0_1) := (blk_cell BK340.out 1).trans rfl; have hcz70_2 : w69.cell? ⟨gb340, 2, none⟩ = some (.slice A0_2 l0_2.length c0_2) := (blk_cell BK340.out 2).trans rfl; have hcz70_3 : w69.cell? ⟨gb340, 3, none⟩ = some (.slice A0_3 l0_3.length c0_3) := (blk_cell BK340.out 3).trans rfl; have hcz70_4 : w69.cell? ⟨gb340, 4, none⟩ = some (.int .i64 a0_4) := (blk_cell BK340.out 4).trans rfl; have hcz70_5 : w69.cell? ⟨gb340, 5, none⟩ = some (.slice A0_5 l0_5.length c0_5) := (blk_cell BK340.out 5).trans rfl; have hfz70_0 := blk_frozen BK340.out 0; have hfz70_1 := blk_frozen BK340.out 1; have hfz70_2 := blk_frozen BK340.out 2; have hfz70_3 := blk_frozen BK340.out 3; have hfz70_4 := blk_frozen BK340.out 4; have hfz70_5 := blk_frozen BK340.out 5))
            go_ret
            exact sqe HB
           ·replace c67 := Bool.eq_false_iff.mpr c67
            subst c67
            have H1 : (some false) = some r := by rw [if_neg (show ¬ (false = true) by decide)] at H; exact H
            clear H
            have H := H1
            clear H1
            obtain rfl := Option.some.inj H
            have hcz71_0 : wr.cell? ⟨gb340, 0, none⟩ = some (.bool true) := (blk_cell BK340.out 0).trans rfl
            have hcz71_1 : wr.cell? ⟨gb340, 1, none⟩ = some (.slice A0_1 l0_1.length c0_1) := (blk_cell BK340.out 1).trans rfl
            have hcz71_2 : wr.cell? ⟨gb340, 2, none⟩ = some (.slice A0_2 l0_2.length c0_2) := (blk_cell BK340.out 2).trans rfl
            have hcz71_3 : wr.cell? ⟨gb340, 3, none⟩ = some (.slice A0_3 l0_3.length c0_3) := (blk_cell BK340.out 3).trans rfl
            have hcz71_4 : wr.cell? ⟨gb340, 4, none⟩ = some (.int .i64 a0_4) := (blk_cell BK340.out 4).trans rfl
            have hcz71_5 : wr.cell? ⟨gb340, 5, none⟩ = some (.slice A0_5 l0_5.length c0_5) := (blk_cell BK340.out 5).trans rfl
            have hfz71_0 := blk_frozen BK340.out 0
            have hfz71_1 := blk_frozen BK340.out 1
            have hfz71_2 := blk_frozen BK340.out 2
            have hfz71_3 := blk_frozen BK340.out 3
            have hfz71_4 := blk_frozen BK340.out 4
            have hfz71_5 := blk_frozen BK340.out 5
            go_wp2_with (first | ((with_reducible refine gate_callee (f := 31) rfl ?_); refine sqL (some 84) Try.func31 #[.agg #[.int .i64 a0_4, .slice A0_5 l0_5.length c0_5]] ?_; (with_reducible refine (impl_GapsOk.calls k3 a0_4 _ _ l0_5 false _ ?side1 ?side2 A66.out).mono ?_); (case side1 => repeat (first | exact (Kd.C_below HR0_5.out HB.out) | (with_reducible refine Kd.C_alloc ?_ _) | (with_reducible refine Kd.C_drewN ?_ _) | (with_reducible refine Kd.C_drew ?_))); (case side2 => exact HC0_5.out); rintro e w72 ⟨rfl, hb⟩; refine ⟨_, rfl, ?_⟩; replace BK340 := sqb BK340 hb; replace HB := sqs HB hb; (try clear hb)))
            go_ret
            exact sqe HB
 ·replace c2 := Bool.eq_false_iff.mpr c2
  subst c2
  have H1 : (if (l0_1.length : Int) = 0 then (if (l0_2.length : Int) = 0 then (if (l0_3.length : Int) = 0 then (if a0_4 = 0 then (some ((l0_5.length : Int) == 0)) else (some false)) else (some false)) else (some false)) else (some false)) = some r := by rw [if_neg (show ¬ (false = true) by decide)] at H; exact H
  clear H
  have H := H1
  clear H1
  by_cases c73 : (l0_1.length : Int) = 0
  ·rw [if_pos c73] at H
   have c73b0 : ((l0_1.length : Int) == 0) = true := beq_iff_eq.mpr c73
   have c73b1 : ((l0_1.length : Int) != 0) = false := bne_eq_false_iff_eq.mpr c73
   clear c73
   by_cases c74 : (l0_2.length : Int) = 0
   ·rw [if_pos c74] at H
    have c74b0 : ((l0_2.length : Int) == 0) = true := beq_iff_eq.mpr c74
    have c74b1 : ((l0_2.length : Int) != 0) = false := bne_eq_false_iff_eq.mpr c74
    clear c74
    by_cases c75 : (l0_3.length : Int) = 0
    ·rw [if_pos c75] at H
     have c75b0 : ((l0_3.length : Int) == 0) = true := beq_iff_eq.mpr c75
     have c75b1 : ((l0_3.length : Int) != 0) = false := bne_eq_false_iff_eq.mpr c75
     clear c75
     by_cases c76 : a0_4 = 0
     ·rw [if_pos c76] at H
      have c76b0 : (a0_4 == 0) = true := beq_iff_eq.mpr c76
      have c76b1 : (a0_4 != 0) = false := bne_eq_false_iff_eq.mpr c76
      clear c76
      obtain rfl := Option.some.inj H
      go_enter Try.func60, Try.ntmps60
      go_wp2_with (first | ((with_reducible refine gate_dst (N := 1) rfl ?_); (try (refine gate_guard (by rfl) ?_; dsimp only)); refine sqx 1 #[.bool false, .slice A0_1 l0_1.length c0_1, .slice A0_2 l0_2.length c0_2, .slice A0_3 l0_3.length c0_3, .int .i64 a0_4, .slice A0_5 l0_5.length c0_5] 78 ?_; intro gb340 hg w77 hbox hb; have BK340 := Aside0.mk (hbox); have GW340 := sqg HB hg; have GE340 := sqg HB hg; replace HB := sqs HB hb; clear hb hbox hg; have hcz78_0 : w77.cell? ⟨gb340, 0, none⟩ = some (.bool false) := (blk_cell BK340.out 0).trans rfl; have hcz78_1 : w77.cell? ⟨gb340, 1, none⟩ = some (.slice A0_1 l0_1.length c0_1) := (blk_cell BK340.out 1).trans rfl; have hcz78_2 : w77.cell? ⟨gb340, 2, none⟩ = some (.slice A0_2 l0_2.length c0_2) := (blk_cell BK340.out 2).trans rfl; have hcz78_3 : w77.cell? ⟨gb340, 3, none⟩ = some (.slice A0_3 l0_3.length c0_3) := (blk_cell BK340.out 3).trans rfl; have hcz78_4 : w77.cell? ⟨gb340, 4, none⟩ = some (.int .i64 a0_4) := (blk_cell BK340.out 4).trans rfl; have hcz78_5 : w77.cell? ⟨gb340, 5, none⟩ = some (.slice A0_5 l0_5.length c0_5) := (blk_cell BK340.out 5).trans rfl; have hfz78_0 := blk_frozen BK340.out 0; have hfz78_1 := blk_frozen BK340.out 1; have hfz78_2 := blk_frozen BK340.out 2; have hfz78_3 := blk_frozen BK340.out 3; have hfz78_4 := blk_frozen BK340.out 4; have hfz78_5 := blk_frozen BK340.out 5))
      go_ret
      exact sqe HB
     ·rw [if_neg c76] at H
      have c76b0 : (a0_4 == 0) = false := beq_eq_false_iff_ne.mpr c76
      have c76b1 : (a0_4 != 0) = true := bne_iff_ne.mpr c76
      obtain rfl := Option.some.inj H
      go_enter Try.func60, Try.ntmps60
      go_wp2_with (first | ((with_reducible refine gate_dst (N := 1) rfl ?_); (try (refine gate_guard (by rfl) ?_; dsimp only)); refine sqx 1 #[.bool false, .slice A0_1 l0_1.length c0_1, .slice A0_2 l0_2.length c0_2, .slice A0_3 l0_3.length c0_3, .int .i64 a0_4, .slice A0_5 l0_5.length c0_5] 78 ?_; intro gb340 hg w79 hbox hb; have BK340 := Aside0.mk (hbox); have GW340 := sqg HB hg; have GE340 := sqg HB hg; replace HB := sqs HB hb; clear hb hbox hg; have hcz80_0 : w79.cell? ⟨gb340, 0, none⟩ = some (.bool false) := (blk_cell BK340.out 0).trans rfl; have hcz80_1 : w79.cell? ⟨gb340, 1, none⟩ = some (.slice A0_1 l0_1.length c0_1) := (blk_cell BK340.out 1).trans rfl; have hcz80_2 : w79.cell? ⟨gb340, 2, none⟩ = some (.slice A0_2 l0_2.length c0_2) := (blk_cell BK340.out 2).trans rfl; have hcz80_3 : w79.cell? ⟨gb340, 3, none⟩ = some (.slice A0_3 l0_3.length c0_3) := (blk_cell BK340.out 3).trans rfl; have hcz80_4 : w79.cell? ⟨gb340, 4, none⟩ = some (.int .i64 a0_4) := (blk_cell BK340.out 4).trans rfl; have hcz80_5 : w79.cell? ⟨gb340, 5, none⟩ = some (.slice A0_5 l0_5.length c0_5) := (blk_cell BK340.out 5).trans rfl; have hfz80_0 := blk_frozen BK340.out 0; have hfz80_1 := blk_frozen BK340.out 1; have hfz80_2 := blk_frozen BK340.out 2; have hfz80_3 := blk_frozen BK340.out 3; have hfz80_4 := blk_frozen BK340.out 4; have hfz80_5 := blk_frozen BK340.out 5))
      go_ret
      exact sqe HB
    ·rw [if_neg c75] at H
     have c75b0 : ((l0_3.length : Int) == 0) = false := beq_eq_false_iff_ne.mpr c75
     have c75b1 : ((l0_3.length : Int) != 0) = true := bne_iff_ne.mpr c75
     have c75b2 : ¬ (l0_3 = []) := fun h_ => c75 (by rw [h_]; rfl)
     obtain rfl := Option.some.inj H
     go_enter Try.func60, Try.ntmps60
     go_wp2_with (first | ((with_reducible refine gate_dst (N := 1) rfl ?_); (try (refine gate_guard (by rfl) ?_; dsimp only)); refine sqx 1 #[.bool false, .slice A0_1 l0_1.length c0_1, .slice A0_2 l0_2.length c0_2, .slice A0_3 l0_3.length c0_3, .int .i64 a0_4, .slice A0_5 l0_5.length c0_5] 78 ?_; intro gb340 hg w81 hbox hb; have BK340 := Aside0.mk (hbox); have GW340 := sqg HB hg; have GE340 := sqg HB hg; replace HB := sqs HB hb; clear hb hbox hg; have hcz82_0 : w81.cell? ⟨gb340, 0, none⟩ = some (.bool false) := (blk_cell BK340.out 0).trans rfl; have hcz82_1 : w81.cell? ⟨gb340, 1, none⟩ = some (.slice A0_1 l0_1.length c0_1) := (blk_cell BK340.out 1).trans rfl; have hcz82_2 : w81.cell? ⟨gb340, 2, none⟩ = some (.slice A0_2 l0_2.length c0_2) := (blk_cell BK340.out 2).trans rfl; have hcz82_3 : w81.cell? ⟨gb340, 3, none⟩ = some (.slice A0_3 l0_3.length c0_3) := (blk_cell BK340.out 3).trans rfl; have hcz82_4 : w81.cell? ⟨gb340, 4, none⟩ = some (.int .i64 a0_4) := (blk_cell BK340.out 4).trans rfl; have hcz82_5 : w81.cell? ⟨gb340, 5, none⟩ = some (.slice A0_5 l0_5.length c0_5) := (blk_cell BK340.out 5).trans rfl; have hfz82_0 := blk_frozen BK340.out 0; have hfz82_1 := blk_frozen BK340.out 1; have hfz82_2 := blk_frozen BK340.out 2; have hfz82_3 := blk_frozen BK340.out 3; have hfz82_4 := blk_frozen BK340.out 4; have hfz82_5 := blk_frozen BK340.out 5))
     go_ret
     exact sqe HB
   ·rw [if_neg c74] at H
    have c74b0 : ((l0_2.length : Int) == 0) = false := beq_eq_false_iff_ne.mpr c74
    have c74b1 : ((l0_2.length : Int) != 0) = true := bne_iff_ne.mpr c74
    have c74b2 : ¬ (l0_2 = []) := fun h_ => c74 (by rw [h_]; rfl)
    obtain rfl := Option.some.inj H
    go_enter Try.func60, Try.ntmps60
    go_wp2_with (first | ((with_reducible refine gate_dst (N := 1) rfl ?_); (try (refine gate_guard (by rfl) ?_; dsimp only)); refine sqx 1 #[.bool false, .slice A0_1 l0_1.length c0_1, .slice A0_2 l0_2.length c0_2, .slice A0_3 l0_3.length c0_3, .int .i64 a0_4, .slice A0_5 l0_5.length c0_5] 78 ?_; intro gb340 hg w83 hbox hb; have BK340 := Aside0.mk (hbox); have GW340 := sqg HB hg; have GE340 := sqg HB hg; replace HB := sqs HB hb; clear hb hbox hg; have hcz84_0 : w83.cell? ⟨gb340, 0, none⟩ = some (.bool false) := (blk_cell BK340.out 0).trans rfl; have hcz84_1 : w83.cell? ⟨gb340, 1, none⟩ = some (.slice A0_1 l0_1.length c0_1) := (blk_cell BK340.out 1).trans rfl; have hcz84_2 : w83.cell? ⟨gb340, 2, none⟩ = some (.slice A0_2 l0_2.length c0_2) := (blk_cell BK340.out 2).trans rfl; have hcz84_3 : w83.cell? ⟨gb340, 3, none⟩ = some (.slice A0_3 l0_3.length c0_3) := (blk_cell BK340.out 3).trans rfl; have hcz84_4 : w83.cell? ⟨gb340, 4, none⟩ = some (.int .i64 a0_4) := (blk_cell BK340.out 4).trans rfl; have hcz84_5 : w83.cell? ⟨gb340, 5, none⟩ = some (.slice A0_5 l0_5.length c0_5) := (blk_cell BK340.out 5).trans rfl; have hfz84_0 := blk_frozen BK340.out 0; have hfz84_1 := blk_frozen BK340.out 1; have hfz84_2 := blk_frozen BK340.out 2; have hfz84_3 := blk_frozen BK340.out 3; have hfz84_4 := blk_frozen BK340.out 4; have hfz84_5 := blk_frozen BK340.out 5))
    go_ret
    exact sqe HB
  ·rw [if_neg c73] at H
   have c73b0 : ((l0_1.length : Int) == 0) = false := beq_eq_false_iff_ne.mpr c73
   have c73b1 : ((l0_1.length : Int) != 0) = true := bne_iff_ne.mpr c73
   have c73b2 : ¬ (l0_1 = []) := fun h_ => c73 (by rw [h_]; rfl)
   obtain rfl := Option.some.inj H
   go_enter Try.func60, Try.ntmps60
   go_wp2_with (first | ((with_reducible refine gate_dst (N := 1) rfl ?_); (try (refine gate_guard (by rfl) ?_; dsimp only)); refine sqx 1 #[.bool false, .slice A0_1 l0_1.length c0_1, .slice A0_2 l0_2.length c0_2, .slice A0_3 l0_3.length c0_3, .int .i64 a0_4, .slice A0_5 l0_5.length c0_5] 78 ?_; intro gb340 hg w85 hbox hb; have BK340 := Aside0.mk (hbox); have GW340 := sqg HB hg; have GE340 := sqg HB hg; replace HB := sqs HB hb; clear hb hbox hg; have hcz86_0 : w85.cell? ⟨gb340, 0, none⟩ = some (.bool false) := (blk_cell BK340.out 0).trans rfl; have hcz86_1 : w85.cell? ⟨gb340, 1, none⟩ = some (.slice A0_1 l0_1.length c0_1) := (blk_cell BK340.out 1).trans rfl; have hcz86_2 : w85.cell? ⟨gb340, 2, none⟩ = some (.slice A0_2 l0_2.length c0_2) := (blk_cell BK340.out 2).trans rfl; have hcz86_3 : w85.cell? ⟨gb340, 3, none⟩ = some (.slice A0_3 l0_3.length c0_3) := (blk_cell BK340.out 3).trans rfl; have hcz86_4 : w85.cell? ⟨gb340, 4, none⟩ = some (.int .i64 a0_4) := (blk_cell BK340.out 4).trans rfl; have hcz86_5 : w85.cell? ⟨gb340, 5, none⟩ = some (.slice A0_5 l0_5.length c0_5) := (blk_cell BK340.out 5).trans rfl; have hfz86_0 := blk_frozen BK340.out 0; have hfz86_1 := blk_frozen BK340.out 1; have hfz86_2 := blk_frozen BK340.out 2; have hfz86_3 := blk_frozen BK340.out 3; have hfz86_4 := blk_frozen BK340.out 4; have hfz86_5 := blk_frozen BK340.out 5))
   go_ret
   exact sqe HB

end Go.Proofs.Ytkekcenlleebeaa.PFnExactAbsOk
