/- Functions of the program as plain Lean functions, and that calls of them come to what these tell. Conditions: those in each law. -/
import Derived.Test.YtkekcenlleebeaaSq
import Derived.Test.YtkekcenlleebeaaDFnExactAbsOk
import Derived.Test.YtkekcenlleebeaaQFnExactAbsOkx0
import Derived.Test.YtkekcenlleebeaaQFnExactAbsOkx3
import Derived.Test.YtkekcenlleebeaaQFnExactAbsOkx9
import Derived.Test.YtkekcenlleebeaaQFnExactAbsOkx10
namespace Go.Proofs.Ytkekcenlleebeaa.PFnExactAbsOk
open Go.RowKit Go.Proofs.Ytkekcenlleebeaa.Sq Go.Proofs.YtkekcenlleebeaaW.PrintWords Go.Proofs.YtkekcenlleebeaaW.PrintLast Go.Proofs.YtkekcenlleebeaaW.PrintMore
attribute [local go_sem] max2_int min2_int max_two min_two max_three min_three max_four min_four   -- for this text's walks alone
set_option linter.unusedVariables false
set_option linter.unusedSimpArgs false

/-! ### spec_AbsOk: function 58 -/
theorem spec_AbsOk.mono_l : ∀ k, (∀ y0 y1 y2 y3 y4 y5 y6, LeO (spec_AbsOk.l0 k y0 y1 y2 y3 y4 y5 y6) (spec_AbsOk.l0 (k + 1) y0 y1 y2 y3 y4 y5 y6))
 | 0 => fun _ _ _ _ _ _ _ r h => by simp [spec_AbsOk.l0] at h
 | k + 1 => by
  have ih0 := spec_AbsOk.mono_l k
  ·intro y0 y1 y2 y3 y4 y5 y6
   unfold spec_AbsOk.l0
   repeat' first
   | (with_reducible exact ih0 _ _ _ _ _ _ _)
   | (with_reducible exact spec_GapsOk.mono _ _ _)
   | (with_reducible exact spec_l12RefOk.mono _ _ _ _ _ _ _)
   | (with_reducible exact spec_l12Vals.mono _ _)
   | (with_reducible exact LeO.refl _)
   | (with_reducible exact LeO.none _)
   | (with_reducible refine LeO.ite ?_ ?_)
   | (with_reducible refine LeO.bind ?_ (fun _ => ?_))
   | exact ih0 _ _ _ _ _ _ _
   | exact spec_GapsOk.mono _ _ _
   | exact spec_l12RefOk.mono _ _ _ _ _ _ _
   | exact spec_l12Vals.mono _ _
   | exact LeO.none _
   | refine LeO.ite ?_ ?_
   | refine LeO.bind ?_ (fun _ => ?_)
theorem spec_AbsOk.mono : ∀ a0 a1 a2 a3 a4 a5 k, LeO (spec_AbsOk.f k a0 a1 a2 a3 a4 a5) (spec_AbsOk.f (k + 1) a0 a1 a2 a3 a4 a5) := by
 intro a0 a1 a2 a3 a4 a5 k
 have ih0 := spec_AbsOk.mono_l k
 unfold spec_AbsOk.f
 repeat' first
   | (with_reducible exact ih0 _ _ _ _ _ _ _)
   | (with_reducible exact spec_GapsOk.mono _ _ _)
   | (with_reducible exact spec_l12RefOk.mono _ _ _ _ _ _ _)
   | (with_reducible exact spec_l12Vals.mono _ _)
   | (with_reducible exact LeO.refl _)
   | (with_reducible exact LeO.none _)
   | (with_reducible refine LeO.ite ?_ ?_)
   | (with_reducible refine LeO.bind ?_ (fun _ => ?_))
   | exact ih0 _ _ _ _ _ _ _
   | exact spec_GapsOk.mono _ _ _
   | exact spec_l12RefOk.mono _ _ _ _ _ _ _
   | exact spec_l12Vals.mono _ _
   | exact LeO.none _
   | refine LeO.ite ?_ ?_
   | refine LeO.bind ?_ (fun _ => ?_)
set_option maxHeartbeats 8000000 in
set_option maxRecDepth 100000 in
theorem spec_AbsOk.calls (k : Nat) (a0_0 : Bool) (A0_1 : Option Addr) (c0_1 : Nat) (l0_1 : List (S30)) (A0_2 : Option Addr) (c0_2 : Nat) (l0_2 : List (S132)) (A0_3 : Option Addr) (c0_3 : Nat) (l0_3 : List (S30)) (a0_4 : Int) (A0_5 : Option Addr) (c0_5 : Nat) (l0_5 : List Int) (r : Bool) (w : World) (hr0_1 : Kd.C k30 w A0_1 l0_1.length l0_1) (hc0_1 : l0_1.length ≤ c0_1) (hr0_2 : Kd.C k132 w A0_2 l0_2.length l0_2) (hc0_2 : l0_2.length ≤ c0_2) (hr0_3 : Kd.C k30 w A0_3 l0_3.length l0_3) (hc0_3 : l0_3.length ≤ c0_3) (hr0_5 : Kd.C (Kd.int .i64) w A0_5 l0_5.length l0_5) (hc0_5 : l0_5.length ≤ c0_5) (h : spec_AbsOk.f k a0_0 l0_1 l0_2 l0_3 a0_4 l0_5 = some r) :
  Calls Try.prog 58 #[.agg #[.bool a0_0, .slice A0_1 l0_1.length c0_1, .slice A0_2 l0_2.length c0_2, .slice A0_3 l0_3.length c0_3, .int .i64 a0_4, .slice A0_5 l0_5.length c0_5]] w fun e w' => e = .returned (.bool r) ∧ Below w.heap.size w w' := by
 have hu78 := Try.underlying78
 have hu132 := Try.underlying132
 have hu41 := Try.underlying41
 have HR0_1 := Aside0.mk hr0_1
 have HC0_1 := Aside0.mk hc0_1
 clear hr0_1 hc0_1
 have HR0_2 := Aside0.mk hr0_2
 have HC0_2 := Aside0.mk hc0_2
 clear hr0_2 hc0_2
 have HR0_3 := Aside0.mk hr0_3
 have HC0_3 := Aside0.mk hc0_3
 clear hr0_3 hc0_3
 have HR0_5 := Aside0.mk hr0_5
 have HC0_5 := Aside0.mk hc0_5
 clear hr0_5 hc0_5
 have HB := Aside0.mk (Below.refl w.heap.size w)
 have H : (if a0_0 = true then (spec_AbsOk.l0 k 0 a0_0 l0_1 l0_2 l0_3 a0_4 l0_5) else (if (l0_1.length : Int) = 0 then (if (l0_2.length : Int) = 0 then (if (l0_3.length : Int) = 0 then (if a0_4 = 0 then (some ((l0_5.length : Int) == 0)) else (some false)) else (some false)) else (some false)) else (some false))) = some r := h
 clear h
 by_cases c2 : a0_0 = true
 ·subst c2
  have H1 : (spec_AbsOk.l0 k 0 true l0_1 l0_2 l0_3 a0_4 l0_5) = some r := by rw [if_pos rfl] at H; exact H
  clear H
  have H := H1
  clear H1
  have H' := Aside0.mk H
  clear H
  go_enter Try.func58, Try.ntmps58
  go_wp2_with (first | ((with_reducible refine gate_dst (N := 1) rfl ?_); (try (refine gate_guard (by rfl) ?_; dsimp only)); refine sqx 1 #[.bool true, .slice A0_1 l0_1.length c0_1, .slice A0_2 l0_2.length c0_2, .slice A0_3 l0_3.length c0_3, .int .i64 a0_4, .slice A0_5 l0_5.length c0_5] 78 ?_; intro gb203 hg w3 hbox hb; have BK203 := Aside0.mk (hbox); have GW203 := sqg HB hg; have GE203 := sqg HB hg; replace HB := sqs HB hb; clear hb hbox hg; have hcz4_0 : w3.cell? ⟨gb203, 0, none⟩ = some (.bool true) := (blk_cell BK203.out 0).trans rfl; have hcz4_1 : w3.cell? ⟨gb203, 1, none⟩ = some (.slice A0_1 l0_1.length c0_1) := (blk_cell BK203.out 1).trans rfl; have hcz4_2 : w3.cell? ⟨gb203, 2, none⟩ = some (.slice A0_2 l0_2.length c0_2) := (blk_cell BK203.out 2).trans rfl; have hcz4_3 : w3.cell? ⟨gb203, 3, none⟩ = some (.slice A0_3 l0_3.length c0_3) := (blk_cell BK203.out 3).trans rfl; have hcz4_4 : w3.cell? ⟨gb203, 4, none⟩ = some (.int .i64 a0_4) := (blk_cell BK203.out 4).trans rfl; have hcz4_5 : w3.cell? ⟨gb203, 5, none⟩ = some (.slice A0_5 l0_5.length c0_5) := (blk_cell BK203.out 5).trans rfl; have hfz4_0 := blk_frozen BK203.out 0; have hfz4_1 := blk_frozen BK203.out 1; have hfz4_2 := blk_frozen BK203.out 2; have hfz4_3 := blk_frozen BK203.out 3; have hfz4_4 := blk_frozen BK203.out 4; have hfz4_5 := blk_frozen BK203.out 5))
  go_loopg [3] k (fun kq v3 w' => ∃ (x3_1 : Int), v3 = .int .i64 x3_1 ∧ Aside0 (spec_AbsOk.l0 kq x3_1 true l0_1 l0_2 l0_3 a0_4 l0_5 = some r) ∧ Aside0 (kq ≤ k) ∧ Aside0 (w'.heap[gb203]? = some (.cells #[.bool true, (.slice A0_1 l0_1.length c0_1), (.slice A0_2 l0_2.length c0_2), (.slice A0_3 l0_3.length c0_3), .int .i64 a0_4, (.slice A0_5 l0_5.length c0_5)] 78 (0, 0))) ∧ Aside0 (Below w.heap.size w w'))
  case atStart => exact ⟨(0), (by first | rfl | (simp; done) | (simp [*]; done)), H', ⟨Nat.le_refl _⟩, sqk BK203, sqh HB⟩
  case round =>
   clear H'
   try clear c2
   try clear p2
   try clear hcz4_0
   try clear hcz4_1
   try clear hcz4_2
   try clear hcz4_3
   try clear hcz4_4
   try clear hcz4_5
   try clear hfz4_0
   try clear hfz4_1
   try clear hfz4_2
   try clear hfz4_3
   try clear hfz4_4
   try clear hfz4_5
   obtain ⟨x3_1, rfl, HA, HK1, BK203, HB⟩ := hrel
   cases gk with
   | zero => exact absurd HA.out (by simp [spec_AbsOk.l0])
   | succ k1 =>
    have H := HA.out
    clear HA
    simp only [spec_AbsOk.l0] at H
    by_cases c5 : x3_1 < (l0_2.length : Int)
    ·rw [if_pos c5] at H
     have c5b0 : decide (x3_1 < (l0_2.length : Int)) = true := decide_eq_true c5
     clear c5
     by_cases c6 : 0 ≤ x3_1
     ·rw [if_pos c6] at H
      have c6b0 : decide (0 ≤ x3_1) = true := decide_eq_true c6
      clear c6
      replace H := Option.bind_eq_some_iff.mp H
      obtain ⟨t205, A70, H⟩ := H
      replace H : (if t205 = true then (spec_AbsOk.l0 k1 (wrap64 (x3_1 + 1)) true l0_1 l0_2 l0_3 a0_4 l0_5) else (some false)) = some r := H
      have A7 := Aside0.mk A70
      clear A70
      by_cases c8 : t205 = true
      ·subst c8
       have H1 : (spec_AbsOk.l0 k1 (wrap64 (x3_1 + 1)) true l0_1 l0_2 l0_3 a0_4 l0_5) = some r := by rw [if_pos rfl] at H; exact H
       clear H
       have H := H1
       clear H1
       have H' := Aside0.mk H
       clear H
       have hcz9_0 : wr.cell? ⟨gb203, 0, none⟩ = some (.bool true) := (blk_cell BK203.out 0).trans rfl
       have hcz9_1 : wr.cell? ⟨gb203, 1, none⟩ = some (.slice A0_1 l0_1.length c0_1) := (blk_cell BK203.out 1).trans rfl
       have hcz9_2 : wr.cell? ⟨gb203, 2, none⟩ = some (.slice A0_2 l0_2.length c0_2) := (blk_cell BK203.out 2).trans rfl
       have hcz9_3 : wr.cell? ⟨gb203, 3, none⟩ = some (.slice A0_3 l0_3.length c0_3) := (blk_cell BK203.out 3).trans rfl
       have hcz9_4 : wr.cell? ⟨gb203, 4, none⟩ = some (.int .i64 a0_4) := (blk_cell BK203.out 4).trans rfl
       have hcz9_5 : wr.cell? ⟨gb203, 5, none⟩ = some (.slice A0_5 l0_5.length c0_5) := (blk_cell BK203.out 5).trans rfl
       have hfz9_0 := blk_frozen BK203.out 0
       have hfz9_1 := blk_frozen BK203.out 1
       have hfz9_2 := blk_frozen BK203.out 2
       have hfz9_3 := blk_frozen BK203.out 3
       have hfz9_4 := blk_frozen BK203.out 4
       have hfz9_5 := blk_frozen BK203.out 5
       have p204 : 0 ≤ (x3_1 : Int) := of_decide_eq_true (by first | (with_reducible assumption) | assumption)
       have q204 : x3_1 < (l0_2.length : Int) := of_decide_eq_true (by first | (with_reducible assumption) | assumption)
       obtain ⟨ad204, A204_1, c204_1, e204, hx204_0, hx204_1, hx204_2, hx204_3, hx204_4, hx204_5, hl204_1, hi204_1⟩ := at_T132 HR0_2.out x3_1 p204 q204
       cases e204
       replace hx204_0 := (HB.out.cell (World.block_lt_of_cell? w _ hx204_0)).trans hx204_0
       replace hx204_1 := (HB.out.cell (World.block_lt_of_cell? w _ hx204_1)).trans hx204_1
       replace hx204_2 := (HB.out.cell (World.block_lt_of_cell? w _ hx204_2)).trans hx204_2
       replace hx204_3 := (HB.out.cell (World.block_lt_of_cell? w _ hx204_3)).trans hx204_3
       replace hx204_4 := (HB.out.cell (World.block_lt_of_cell? w _ hx204_4)).trans hx204_4
       replace hx204_5 := (HB.out.cell (World.block_lt_of_cell? w _ hx204_5)).trans hx204_5
       have HR204_1 := Aside0.mk hi204_1
       have HC204_1 := Aside0.mk hl204_1
       clear hi204_1 hl204_1
       replace p204 := eq_true p204
       replace q204 := eq_true q204
       go_wp2_with (first | ((with_reducible refine gate_callee (f := 139) rfl ?_); refine sqL (some 48) Try.func139 #[.agg #[.bool ((rd_T132 l0_2 x3_1).f0), .slice A204_1 ((rd_T132 l0_2 x3_1).f1).length c204_1, .int .i64 ((rd_T132 l0_2 x3_1).f2.f0), .int .i64 ((rd_T132 l0_2 x3_1).f2.f1), .int .i64 ((rd_T132 l0_2 x3_1).f2.f2), .int .i64 ((rd_T132 l0_2 x3_1).f2.f3)]] ?_; (with_reducible refine (spec_l12RefOk.calls k1 ((rd_T132 l0_2 x3_1).f0) _ _ ((rd_T132 l0_2 x3_1).f1) ((rd_T132 l0_2 x3_1).f2.f0) ((rd_T132 l0_2 x3_1).f2.f1) ((rd_T132 l0_2 x3_1).f2.f2) ((rd_T132 l0_2 x3_1).f2.f3) true _ ?side1 ?side2 A7.out).mono ?_); (case side1 => repeat (first | exact (Kd.C_below HR204_1.out HB.out) | (with_reducible refine Kd.C_alloc ?_ _) | (with_reducible refine Kd.C_drewN ?_ _) | (with_reducible refine Kd.C_drew ?_))); (case side2 => exact HC204_1.out); rintro e w10 ⟨rfl, hb⟩; refine ⟨_, rfl, ?_⟩; replace BK203 := sqb BK203 hb; replace HB := sqs HB hb; (try clear hb)))
       go_roundg k1
       case measure => have := HK1.out; omega
       case rel => exact ⟨(wrap64 (x3_1 + 1)), (by first | rfl | (simp; done) | (simp [*]; done)), H', ⟨by have := HK1.out; omega⟩, sqk BK203, sqh HB⟩
      ·replace c8 := Bool.eq_false_iff.mpr c8
       subst c8
       have H1 : (some false) = some r := by rw [if_neg (show ¬ (false = true) by decide)] at H; exact H
       clear H
       have H := H1
       clear H1
       obtain rfl := Option.some.inj H
       have hcz11_0 : wr.cell? ⟨gb203, 0, none⟩ = some (.bool true) := (blk_cell BK203.out 0).trans rfl
       have hcz11_1 : wr.cell? ⟨gb203, 1, none⟩ = some (.slice A0_1 l0_1.length c0_1) := (blk_cell BK203.out 1).trans rfl
       have hcz11_2 : wr.cell? ⟨gb203, 2, none⟩ = some (.slice A0_2 l0_2.length c0_2) := (blk_cell BK203.out 2).trans rfl
       have hcz11_3 : wr.cell? ⟨gb203, 3, none⟩ = some (.slice A0_3 l0_3.length c0_3) := (blk_cell BK203.out 3).trans rfl
       have hcz11_4 : wr.cell? ⟨gb203, 4, none⟩ = some (.int .i64 a0_4) := (blk_cell BK203.out 4).trans rfl
       have hcz11_5 : wr.cell? ⟨gb203, 5, none⟩ = some (.slice A0_5 l0_5.length c0_5) := (blk_cell BK203.out 5).trans rfl
       have hfz11_0 := blk_frozen BK203.out 0
       have hfz11_1 := blk_frozen BK203.out 1
       have hfz11_2 := blk_frozen BK203.out 2
       have hfz11_3 := blk_frozen BK203.out 3
       have hfz11_4 := blk_frozen BK203.out 4
       have hfz11_5 := blk_frozen BK203.out 5
       have p204 : 0 ≤ (x3_1 : Int) := of_decide_eq_true (by first | (with_reducible assumption) | assumption)
       have q204 : x3_1 < (l0_2.length : Int) := of_decide_eq_true (by first | (with_reducible assumption) | assumption)
       obtain ⟨ad204, A204_1, c204_1, e204, hx204_0, hx204_1, hx204_2, hx204_3, hx204_4, hx204_5, hl204_1, hi204_1⟩ := at_T132 HR0_2.out x3_1 p204 q204
       cases e204
       replace hx204_0 := (HB.out.cell (World.block_lt_of_cell? w _ hx204_0)).trans hx204_0
       replace hx204_1 := (HB.out.cell (World.block_lt_of_cell? w _ hx204_1)).trans hx204_1
       replace hx204_2 := (HB.out.cell (World.block_lt_of_cell? w _ hx204_2)).trans hx204_2
       replace hx204_3 := (HB.out.cell (World.block_lt_of_cell? w _ hx204_3)).trans hx204_3
       replace hx204_4 := (HB.out.cell (World.block_lt_of_cell? w _ hx204_4)).trans hx204_4
       replace hx204_5 := (HB.out.cell (World.block_lt_of_cell? w _ hx204_5)).trans hx204_5
       have HR204_1 := Aside0.mk hi204_1
       have HC204_1 := Aside0.mk hl204_1
       clear hi204_1 hl204_1
       replace p204 := eq_true p204
       replace q204 := eq_true q204
       go_wp2_with (first | ((with_reducible refine gate_callee (f := 139) rfl ?_); refine sqL (some 48) Try.func139 #[.agg #[.bool ((rd_T132 l0_2 x3_1).f0), .slice A204_1 ((rd_T132 l0_2 x3_1).f1).length c204_1, .int .i64 ((rd_T132 l0_2 x3_1).f2.f0), .int .i64 ((rd_T132 l0_2 x3_1).f2.f1), .int .i64 ((rd_T132 l0_2 x3_1).f2.f2), .int .i64 ((rd_T132 l0_2 x3_1).f2.f3)]] ?_; (with_reducible refine (spec_l12RefOk.calls k1 ((rd_T132 l0_2 x3_1).f0) _ _ ((rd_T132 l0_2 x3_1).f1) ((rd_T132 l0_2 x3_1).f2.f0) ((rd_T132 l0_2 x3_1).f2.f1) ((rd_T132 l0_2 x3_1).f2.f2) ((rd_T132 l0_2 x3_1).f2.f3) false _ ?side1 ?side2 A7.out).mono ?_); (case side1 => repeat (first | exact (Kd.C_below HR204_1.out HB.out) | (with_reducible refine Kd.C_alloc ?_ _) | (with_reducible refine Kd.C_drewN ?_ _) | (with_reducible refine Kd.C_drew ?_))); (case side2 => exact HC204_1.out); rintro e w12 ⟨rfl, hb⟩; refine ⟨_, rfl, ?_⟩; replace BK203 := sqb BK203 hb; replace HB := sqs HB hb; (try clear hb)))
       go_ret
       exact sqe HB
     ·rw [if_neg c6] at H
      exact absurd H (by simp)
    ·rw [if_neg c5] at H
     have c5b0 : decide (x3_1 < (l0_2.length : Int)) = false := decide_eq_false c5
     clear c5
     replace H := Option.bind_eq_some_iff.mp H
     obtain ⟨t206, A130, H⟩ := H
     replace H : (if t206 = true then ((spec_l12Vals.f k1 l0_3).bind fun t207 => (if t207 = true then ((spec_GapsOk.f k1 a0_4 l0_5).bind fun t208 => (if t208 = true then (some (a0_4 == (l0_1.length : Int))) else (some false))) else (some false))) else (some false)) = some r := H
     have A13 := Aside0.mk A130
     clear A130
     by_cases c14 : t206 = true
     ·subst c14
      have H1 : ((spec_l12Vals.f k1 l0_3).bind fun t207 => (if t207 = true then ((spec_GapsOk.f k1 a0_4 l0_5).bind fun t208 => (if t208 = true then (some (a0_4 == (l0_1.length : Int))) else (some false))) else (some false))) = some r := by rw [if_pos rfl] at H; exact H
      clear H
      have H := H1
      clear H1
      replace H := Option.bind_eq_some_iff.mp H
      obtain ⟨t207, A150, H⟩ := H
      replace H : (if t207 = true then ((spec_GapsOk.f k1 a0_4 l0_5).bind fun t208 => (if t208 = true then (some (a0_4 == (l0_1.length : Int))) else (some false))) else (some false)) = some r := H
      have A15 := Aside0.mk A150
      clear A150
      by_cases c16 : t207 = true
      ·subst c16
       have H1 : ((spec_GapsOk.f k1 a0_4 l0_5).bind fun t208 => (if t208 = true then (some (a0_4 == (l0_1.length : Int))) else (some false))) = some r := by rw [if_pos rfl] at H; exact H
       clear H
       have H := H1
       clear H1
       replace H := Option.bind_eq_some_iff.mp H
       obtain ⟨t208, A170, H⟩ := H
       replace H : (if t208 = true then (some (a0_4 == (l0_1.length : Int))) else (some false)) = some r := H
       have A17 := Aside0.mk A170
       clear A170
       by_cases c18 : t208 = true
       ·subst c18
        have H1 : (some (a0_4 == (l0_1.length : Int))) = some r := by rw [if_pos rfl] at H; exact H
        clear H
        have H := H1
        clear H1
        obtain rfl := Option.some.inj H
        have hcz19_0 : wr.cell? ⟨gb203, 0, none⟩ = some (.bool true) := (blk_cell BK203.out 0).trans rfl
        have hcz19_1 : wr.cell? ⟨gb203, 1, none⟩ = some (.slice A0_1 l0_1.length c0_1) := (blk_cell BK203.out 1).trans rfl
        have hcz19_2 : wr.cell? ⟨gb203, 2, none⟩ = some (.slice A0_2 l0_2.length c0_2) := (blk_cell BK203.out 2).trans rfl
        have hcz19_3 : wr.cell? ⟨gb203, 3, none⟩ = some (.slice A0_3 l0_3.length c0_3) := (blk_cell BK203.out 3).trans rfl
        have hcz19_4 : wr.cell? ⟨gb203, 4, none⟩ = some (.int .i64 a0_4) := (blk_cell BK203.out 4).trans rfl
        have hcz19_5 : wr.cell? ⟨gb203, 5, none⟩ = some (.slice A0_5 l0_5.length c0_5) := (blk_cell BK203.out 5).trans rfl
        have hfz19_0 := blk_frozen BK203.out 0
        have hfz19_1 := blk_frozen BK203.out 1
        have hfz19_2 := blk_frozen BK203.out 2
        have hfz19_3 := blk_frozen BK203.out 3
        have hfz19_4 := blk_frozen BK203.out 4
        have hfz19_5 := blk_frozen BK203.out 5
        go_wp2_with (first | ((with_reducible refine gate_callee (f := 140) rfl ?_); refine sqL (some 52) Try.func140 #[.slice A0_1 l0_1.length c0_1] ?_; (with_reducible refine (spec_l12Vals.calls k1 _ _ l0_1 true _ ?side1 ?side2 A13.out).mono ?_); (case side1 => repeat (first | exact (Kd.C_below HR0_1.out HB.out) | (with_reducible refine Kd.C_alloc ?_ _) | (with_reducible refine Kd.C_drewN ?_ _) | (with_reducible refine Kd.C_drew ?_))); (case side2 => exact HC0_1.out); rintro e w20 ⟨rfl, hb⟩; refine ⟨_, rfl, ?_⟩; replace BK203 := sqb BK203 hb; replace HB := sqs HB hb; (try clear hb); have hcz21_0 : w20.cell? ⟨gb203, 0, none⟩ = some (.bool true) := (blk_cell BK203.out 0).trans rfl; have hcz21_1 : w20.cell? ⟨gb203, 1, none⟩ = some (.slice A0_1 l0_1.length c0_1) := (blk_cell BK203.out 1).trans rfl; have hcz21_2 : w20.cell? ⟨gb203, 2, none⟩ = some (.slice A0_2 l0_2.length c0_2) := (blk_cell BK203.out 2).trans rfl; have hcz21_3 : w20.cell? ⟨gb203, 3, none⟩ = some (.slice A0_3 l0_3.length c0_3) := (blk_cell BK203.out 3).trans rfl; have hcz21_4 : w20.cell? ⟨gb203, 4, none⟩ = some (.int .i64 a0_4) := (blk_cell BK203.out 4).trans rfl; have hcz21_5 : w20.cell? ⟨gb203, 5, none⟩ = some (.slice A0_5 l0_5.length c0_5) := (blk_cell BK203.out 5).trans rfl; have hfz21_0 := blk_frozen BK203.out 0; have hfz21_1 := blk_frozen BK203.out 1; have hfz21_2 := blk_frozen BK203.out 2; have hfz21_3 := blk_frozen BK203.out 3; have hfz21_4 := blk_frozen BK203.out 4; have hfz21_5 := blk_frozen BK203.out 5) | (go_at_call 140; (with_reducible refine (spec_l12Vals.calls k1 _ _ l0_3 true _ ?side1 ?side2 A15.out).mono ?_); (case side1 => repeat (first | exact (Kd.C_below HR0_3.out HB.out) | (with_reducible refine Kd.C_alloc ?_ _) | (with_reducible refine Kd.C_drewN ?_ _) | (with_reducible refine Kd.C_drew ?_))); (case side2 => exact HC0_3.out); rintro e w22 ⟨rfl, hb⟩; replace BK203 := sqb BK203 hb; replace HB := sqs HB hb; (try clear hb); have hcz23_0 : w22.cell? ⟨gb203, 0, none⟩ = some (.bool true) := (blk_cell BK203.out 0).trans rfl; have hcz23_1 : w22.cell? ⟨gb203, 1, none⟩ = some (.slice A0_1 l0_1.length c0_1) := (blk_cell BK203.out 1).trans rfl; have hcz23_2 : w22.cell? ⟨gb203, 2, none⟩ = some (.slice A0_2 l0_2.length c0_2) := (blk_cell BK203.out 2).trans rfl; have hcz23_3 : w22.cell? ⟨gb203, 3, none⟩ = some (.slice A0_3 l0_3.length c0_3) := (blk_cell BK203.out 3).trans rfl; have hcz23_4 : w22.cell? ⟨gb203, 4, none⟩ = some (.int .i64 a0_4) := (blk_cell BK203.out 4).trans rfl; have hcz23_5 : w22.cell? ⟨gb203, 5, none⟩ = some (.slice A0_5 l0_5.length c0_5) := (blk_cell BK203.out 5).trans rfl; have hfz23_0 := blk_frozen BK203.out 0; have hfz23_1 := blk_frozen BK203.out 1; have hfz23_2 := blk_frozen BK203.out 2; have hfz23_3 := blk_frozen BK203.out 3; have hfz23_4 := blk_frozen BK203.out 4; have hfz23_5 := blk_frozen BK203.out 5) | (go_at_call 41; (with_reducible refine (spec_GapsOk.calls k1 a0_4 _ _ l0_5 true _ ?side1 ?side2 A17.out).mono ?_); (case side1 => repeat (first | exact (Kd.C_below HR0_5.out HB.out) | (with_reducible refine Kd.C_alloc ?_ _) | (with_reducible refine Kd.C_drewN ?_ _) | (with_reducible refine Kd.C_drew ?_))); (case side2 => exact HC0_5.out); rintro e w24 ⟨rfl, hb⟩; replace BK203 := sqb BK203 hb; replace HB := sqs HB hb; (try clear hb); have hcz25_0 : w24.cell? ⟨gb203, 0, none⟩ = some (.bool true) := (blk_cell BK203.out 0).trans rfl; have hcz25_1 : w24.cell? ⟨gb203, 1, none⟩ = some (.slice A0_1 l0_1.length c0_1) := (blk_cell BK203.out 1).trans rfl; have hcz25_2 : w24.cell? ⟨gb203, 2, none⟩ = some (.slice A0_2 l0_2.length c0_2) := (blk_cell BK203.out 2).trans rfl; have hcz25_3 : w24.cell? ⟨gb203, 3, none⟩ = some (.slice A0_3 l0_3.length c0_3) := (blk_cell BK203.out 3).trans rfl; have hcz25_4 : w24.cell? ⟨gb203, 4, none⟩ = some (.int .i64 a0_4) := (blk_cell BK203.out 4).trans rfl; have hcz25_5 : w24.cell? ⟨gb203, 5, none⟩ = some (.slice A0_5 l0_5.length c0_5) := (blk_cell BK203.out 5).trans rfl; have hfz25_0 := blk_frozen BK203.out 0; have hfz25_1 := blk_frozen BK203.out 1; have hfz25_2 := blk_frozen BK203.out 2; have hfz25_3 := blk_frozen BK203.out 3; have hfz25_4 := blk_frozen BK203.out 4; have hfz25_5 := blk_frozen BK203.out 5))
        go_ret
        exact sqe HB
       ·replace c18 := Bool.eq_false_iff.mpr c18
        subst c18
        have H1 : (some false) = some r := by rw [if_neg (show ¬ (false = true) by decide)] at H; exact H
        clear H
        have H := H1
        clear H1
        obtain rfl := Option.some.inj H
        have hcz26_0 : wr.cell? ⟨gb203, 0, none⟩ = some (.bool true) := (blk_cell BK203.out 0).trans rfl
        have hcz26_1 : wr.cell? ⟨gb203, 1, none⟩ = some (.slice A0_1 l0_1.length c0_1) := (blk_cell BK203.out 1).trans rfl
        have hcz26_2 : wr.cell? ⟨gb203, 2, none⟩ = some (.slice A0_2 l0_2.length c0_2) := (blk_cell BK203.out 2).trans rfl
        have hcz26_3 : wr.cell? ⟨gb203, 3, none⟩ = some (.slice A0_3 l0_3.length c0_3) := (blk_cell BK203.out 3).trans rfl
        have hcz26_4 : wr.cell? ⟨gb203, 4, none⟩ = some (.int .i64 a0_4) := (blk_cell BK203.out 4).trans rfl
        have hcz26_5 : wr.cell? ⟨gb203, 5, none⟩ = some (.slice A0_5 l0_5.length c0_5) := (blk_cell BK203.out 5).trans rfl
        have hfz26_0 := blk_frozen BK203.out 0
        have hfz26_1 := blk_frozen BK203.out 1
        have hfz26_2 := blk_frozen BK203.out 2
        have hfz26_3 := blk_frozen BK203.out 3
        have hfz26_4 := blk_frozen BK203.out 4
        have hfz26_5 := blk_frozen BK203.out 5
        go_wp2_with (first | ((with_reducible refine gate_callee (f := 140) rfl ?_); refine sqL (some 52) Try.func140 #[.slice A0_1 l0_1.length c0_1] ?_; (with_reducible refine (spec_l12Vals.calls k1 _ _ l0_1 true _ ?side1 ?side2 A13.out).mono ?_); (case side1 => repeat (first | exact (Kd.C_below HR0_1.out HB.out) | (with_reducible refine Kd.C_alloc ?_ _) | (with_reducible refine Kd.C_drewN ?_ _) | (with_reducible refine Kd.C_drew ?_))); (case side2 => exact HC0_1.out); rintro e w27 ⟨rfl, hb⟩; refine ⟨_, rfl, ?_⟩; replace BK203 := sqb BK203 hb; replace HB := sqs HB hb; (try clear hb); have hcz28_0 : w27.cell? ⟨gb203, 0, none⟩ = some (.bool true) := (blk_cell BK203.out 0).trans rfl; have hcz28_1 : w27.cell? ⟨gb203, 1, none⟩ = some (.slice A0_1 l0_1.length c0_1) := (blk_cell BK203.out 1).trans rfl; have hcz28_2 : w27.cell? ⟨gb203, 2, none⟩ = some (.slice A0_2 l0_2.length c0_2) := (blk_cell BK203.out 2).trans rfl; have hcz28_3 : w27.cell? ⟨gb203, 3, none⟩ = some (.slice A0_3 l0_3.length c0_3) := (blk_cell BK203.out 3).trans rfl; have hcz28_4 : w27.cell? ⟨gb203, 4, none⟩ = some (.int .i64 a0_4) := (blk_cell BK203.out 4).trans rfl; have hcz28_5 : w27.cell? ⟨gb203, 5, none⟩ = some (.slice A0_5 l0_5.length c0_5) := (blk_cell BK203.out 5).trans rfl; have hfz28_0 := blk_frozen BK203.out 0; have hfz28_1 := blk_frozen BK203.out 1; have hfz28_2 := blk_frozen BK203.out 2; have hfz28_3 := blk_frozen BK203.out 3; have hfz28_4 := blk_frozen BK203.out 4; have hfz28_5 := blk_frozen BK203.out 5) | (go_at_call 140; (with_reducible refine (spec_l12Vals.calls k1 _ _ l0_3 true _ ?side1 ?side2 A15.out).mono ?_); (case side1 => repeat (first | exact (Kd.C_below HR0_3.out HB.out) | (with_reducible refine Kd.C_alloc ?_ _) | (with_reducible refine Kd.C_drewN ?_ _) | (with_reducible refine Kd.C_drew ?_))); (case side2 => exact HC0_3.out); rintro e w29 ⟨rfl, hb⟩; replace BK203 := sqb BK203 hb; replace HB := sqs HB hb; (try clear hb); have hcz30_0 : w29.cell? ⟨gb203, 0, none⟩ = some (.bool true) := (blk_cell BK203.out 0).trans rfl; have hcz30_1 : w29.cell? ⟨gb203, 1, none⟩ = some (.slice A0_1 l0_1.length c0_1) := (blk_cell BK203.out 1).trans rfl; have hcz30_2 : w29.cell? ⟨gb203, 2, none⟩ = some (.slice A0_2 l0_2.length c0_2) := (blk_cell BK203.out 2).trans rfl; have hcz30_3 : w29.cell? ⟨gb203, 3, none⟩ = some (.slice A0_3 l0_3.length c0_3) := (blk_cell BK203.out 3).trans rfl; have hcz30_4 : w29.cell? ⟨gb203, 4, none⟩ = some (.int .i64 a0_4) := (blk_cell BK203.out 4).trans rfl; have hcz30_5 : w29.cell? ⟨gb203, 5, none⟩ = some (.slice A0_5 l0_5.length c0_5) := (blk_cell BK203.out 5).trans rfl; have hfz30_0 := blk_frozen BK203.out 0; have hfz30_1 := blk_frozen BK203.out 1; have hfz30_2 := blk_frozen BK203.out 2; have hfz30_3 := blk_frozen BK203.out 3; have hfz30_4 := blk_frozen BK203.out 4; have hfz30_5 := blk_frozen BK203.out 5) | (go_at_call 41; (with_reducible refine (spec_GapsOk.calls k1 a0_4 _ _ l0_5 false _ ?side1 ?side2 A17.out).mono ?_); (case side1 => repeat (first | exact (Kd.C_below HR0_5.out HB.out) | (with_reducible refine Kd.C_alloc ?_ _) | (with_reducible refine Kd.C_drewN ?_ _) | (with_reducible refine Kd.C_drew ?_))); (case side2 => exact HC0_5.out); rintro e w31 ⟨rfl, hb⟩; replace BK203 := sqb BK203 hb; replace HB := sqs HB hb; (try clear hb)))
        go_ret
        exact sqe HB
      ·replace c16 := Bool.eq_false_iff.mpr c16
       subst c16
       have H1 : (some false) = some r := by rw [if_neg (show ¬ (false = true) by decide)] at H; exact H
       clear H
       have H := H1
       clear H1
       obtain rfl := Option.some.inj H
       have hcz32_0 : wr.cell? ⟨gb203, 0, none⟩ = some (.bool true) := (blk_cell BK203.out 0).trans rfl
       have hcz32_1 : wr.cell? ⟨gb203, 1, none⟩ = some (.slice A0_1 l0_1.length c0_1) := (blk_cell BK203.out 1).trans rfl
       have hcz32_2 : wr.cell? ⟨gb203, 2, none⟩ = some (.slice A0_2 l0_2.length c0_2) := (blk_cell BK203.out 2).trans rfl
       have hcz32_3 : wr.cell? ⟨gb203, 3, none⟩ = some (.slice A0_3 l0_3.length c0_3) := (blk_cell BK203.out 3).trans rfl
       have hcz32_4 : wr.cell? ⟨gb203, 4, none⟩ = some (.int .i64 a0_4) := (blk_cell BK203.out 4).trans rfl
       have hcz32_5 : wr.cell? ⟨gb203, 5, none⟩ = some (.slice A0_5 l0_5.length c0_5) := (blk_cell BK203.out 5).trans rfl
       have hfz32_0 := blk_frozen BK203.out 0
       have hfz32_1 := blk_frozen BK203.out 1
       have hfz32_2 := blk_frozen BK203.out 2
       have hfz32_3 := blk_frozen BK203.out 3
       have hfz32_4 := blk_frozen BK203.out 4
       have hfz32_5 := blk_frozen BK203.out 5
       go_wp2_with (first | ((with_reducible refine gate_callee (f := 140) rfl ?_); refine sqL (some 52) Try.func140 #[.slice A0_1 l0_1.length c0_1] ?_; (with_reducible refine (spec_l12Vals.calls k1 _ _ l0_1 true _ ?side1 ?side2 A13.out).mono ?_); (case side1 => repeat (first | exact (Kd.C_below HR0_1.out HB.out) | (with_reducible refine Kd.C_alloc ?_ _) | (with_reducible refine Kd.C_drewN ?_ _) | (with_reducible refine Kd.C_drew ?_))); (case side2 => exact HC0_1.out); rintro e w33 ⟨rfl, hb⟩; refine ⟨_, rfl, ?_⟩; replace BK203 := sqb BK203 hb; replace HB := sqs HB hb; (try clear hb); have hcz34_0 : w33.cell? ⟨gb203, 0, none⟩ = some (.bool true) := (blk_cell BK203.out 0).trans rfl; have hcz34_1 : w33.cell? ⟨gb203, 1, none⟩ = some (.slice A0_1 l0_1.length c0_1) := (blk_cell BK203.out 1).trans rfl; have hcz34_2 : w33.cell? ⟨gb203, 2, none⟩ = some (.slice A0_2 l0_2.length c0_2) := (blk_cell BK203.out 2).trans rfl; have hcz34_3 : w33.cell? ⟨gb203, 3, none⟩ = some (.slice A0_3 l0_3.length c0_3) := (blk_cell BK203.out 3).trans rfl; have hcz34_4 : w33.cell? ⟨gb203, 4, none⟩ = some (.int .i64 a0_4) := (blk_cell BK203.out 4).trans rfl; have hcz34_5 : w33.cell? ⟨gb203, 5, none⟩ = some (.slice A0_5 l0_5.length c0_5) := (blk_cell BK203.out 5).trans rfl; have hfz34_0 := blk_frozen BK203.out 0; have hfz34_1 := blk_frozen BK203.out 1; have hfz34_2 := blk_frozen BK203.out 2; have hfz34_3 := blk_frozen BK203.out 3; have hfz34_4 := blk_frozen BK203.out 4; have hfz34_5 := blk_frozen BK203.out 5) | (go_at_call 140; (with_reducible refine (spec_l12Vals.calls k1 _ _ l0_3 false _ ?side1 ?side2 A15.out).mono ?_); (case side1 => repeat (first | exact (Kd.C_below HR0_3.out HB.out) | (with_reducible refine Kd.C_alloc ?_ _) | (with_reducible refine Kd.C_drewN ?_ _) | (with_reducible refine Kd.C_drew ?_))); (case side2 => exact HC0_3.out); rintro e w35 ⟨rfl, hb⟩; replace BK203 := sqb BK203 hb; replace HB := sqs HB hb; (try clear hb)))
       go_ret
       exact sqe HB
     ·replace c14 := Bool.eq_false_iff.mpr c14
      subst c14
      have H1 : (some false) = some r := by rw [if_neg (show ¬ (false = true) by decide)] at H; exact H
      clear H
      have H := H1
      clear H1
      obtain rfl := Option.some.inj H
      have hcz36_0 : wr.cell? ⟨gb203, 0, none⟩ = some (.bool true) := (blk_cell BK203.out 0).trans rfl
      have hcz36_1 : wr.cell? ⟨gb203, 1, none⟩ = some (.slice A0_1 l0_1.length c0_1) := (blk_cell BK203.out 1).trans rfl
      have hcz36_2 : wr.cell? ⟨gb203, 2, none⟩ = some (.slice A0_2 l0_2.length c0_2) := (blk_cell BK203.out 2).trans rfl
      have hcz36_3 : wr.cell? ⟨gb203, 3, none⟩ = some (.slice A0_3 l0_3.length c0_3) := (blk_cell BK203.out 3).trans rfl
      have hcz36_4 : wr.cell? ⟨gb203, 4, none⟩ = some (.int .i64 a0_4) := (blk_cell BK203.out 4).trans rfl
      have hcz36_5 : wr.cell? ⟨gb203, 5, none⟩ = some (.slice A0_5 l0_5.length c0_5) := (blk_cell BK203.out 5).trans rfl
      have hfz36_0 := blk_frozen BK203.out 0
      have hfz36_1 := blk_frozen BK203.out 1
      have hfz36_2 := blk_frozen BK203.out 2
      have hfz36_3 := blk_frozen BK203.out 3
      have hfz36_4 := blk_frozen BK203.out 4
      have hfz36_5 := blk_frozen BK203.out 5
      go_wp2_with (first | ((with_reducible refine gate_callee (f := 140) rfl ?_); refine sqL (some 52) Try.func140 #[.slice A0_1 l0_1.length c0_1] ?_; (with_reducible refine (spec_l12Vals.calls k1 _ _ l0_1 false _ ?side1 ?side2 A13.out).mono ?_); (case side1 => repeat (first | exact (Kd.C_below HR0_1.out HB.out) | (with_reducible refine Kd.C_alloc ?_ _) | (with_reducible refine Kd.C_drewN ?_ _) | (with_reducible refine Kd.C_drew ?_))); (case side2 => exact HC0_1.out); rintro e w37 ⟨rfl, hb⟩; refine ⟨_, rfl, ?_⟩; replace BK203 := sqb BK203 hb; replace HB := sqs HB hb; (try clear hb)))
      go_ret
      exact sqe HB
 ·replace c2 := Bool.eq_false_iff.mpr c2
  subst c2
  have H1 : (if (l0_1.length : Int) = 0 then (if (l0_2.length : Int) = 0 then (if (l0_3.length : Int) = 0 then (if a0_4 = 0 then (some ((l0_5.length : Int) == 0)) else (some false)) else (some false)) else (some false)) else (some false)) = some r := by rw [if_neg (show ¬ (false = true) by decide)] at H; exact H
  clear H
  have H := H1
  clear H1
  by_cases c38 : (l0_1.length : Int) = 0
  ·rw [if_pos c38] at H
   have c38b0 : ((l0_1.length : Int) == 0) = true := beq_iff_eq.mpr c38
   have c38b1 : ((l0_1.length : Int) != 0) = false := bne_eq_false_iff_eq.mpr c38
   clear c38
   by_cases c39 : (l0_2.length : Int) = 0
   ·rw [if_pos c39] at H
    have c39b0 : ((l0_2.length : Int) == 0) = true := beq_iff_eq.mpr c39
    have c39b1 : ((l0_2.length : Int) != 0) = false := bne_eq_false_iff_eq.mpr c39
    clear c39
    by_cases c40 : (l0_3.length : Int) = 0
    ·rw [if_pos c40] at H
     have c40b0 : ((l0_3.length : Int) == 0) = true := beq_iff_eq.mpr c40
     have c40b1 : ((l0_3.length : Int) != 0) = false := bne_eq_false_iff_eq.mpr c40
     clear c40
     by_cases c41 : a0_4 = 0
     ·rw [if_pos c41] at H
      have c41b0 : (a0_4 == 0) = true := beq_iff_eq.mpr c41
      have c41b1 : (a0_4 != 0) = false := bne_eq_false_iff_eq.mpr c41
      clear c41
      obtain rfl := Option.some.inj H
      go_enter Try.func58, Try.ntmps58
      go_wp2_with (first | ((with_reducible refine gate_dst (N := 1) rfl ?_); (try (refine gate_guard (by rfl) ?_; dsimp only)); refine sqx 1 #[.bool false, .slice A0_1 l0_1.length c0_1, .slice A0_2 l0_2.length c0_2, .slice A0_3 l0_3.length c0_3, .int .i64 a0_4, .slice A0_5 l0_5.length c0_5] 78 ?_; intro gb203 hg w42 hbox hb; have BK203 := Aside0.mk (hbox); have GW203 := sqg HB hg; have GE203 := sqg HB hg; replace HB := sqs HB hb; clear hb hbox hg; have hcz43_0 : w42.cell? ⟨gb203, 0, none⟩ = some (.bool false) := (blk_cell BK203.out 0).trans rfl; have hcz43_1 : w42.cell? ⟨gb203, 1, none⟩ = some (.slice A0_1 l0_1.length c0_1) := (blk_cell BK203.out 1).trans rfl; have hcz43_2 : w42.cell? ⟨gb203, 2, none⟩ = some (.slice A0_2 l0_2.length c0_2) := (blk_cell BK203.out 2).trans rfl; have hcz43_3 : w42.cell? ⟨gb203, 3, none⟩ = some (.slice A0_3 l0_3.length c0_3) := (blk_cell BK203.out 3).trans rfl; have hcz43_4 : w42.cell? ⟨gb203, 4, none⟩ = some (.int .i64 a0_4) := (blk_cell BK203.out 4).trans rfl; have hcz43_5 : w42.cell? ⟨gb203, 5, none⟩ = some (.slice A0_5 l0_5.length c0_5) := (blk_cell BK203.out 5).trans rfl; have hfz43_0 := blk_frozen BK203.out 0; have hfz43_1 := blk_frozen BK203.out 1; have hfz43_2 := blk_frozen BK203.out 2; have hfz43_3 := blk_frozen BK203.out 3; have hfz43_4 := blk_frozen BK203.out 4; have hfz43_5 := blk_frozen BK203.out 5))
      go_ret
      exact sqe HB
     ·rw [if_neg c41] at H
      have c41b0 : (a0_4 == 0) = false := beq_eq_false_iff_ne.mpr c41
      have c41b1 : (a0_4 != 0) = true := bne_iff_ne.mpr c41
      obtain rfl := Option.some.inj H
      go_enter Try.func58, Try.ntmps58
      go_wp2_with (first | ((with_reducible refine gate_dst (N := 1) rfl ?_); (try (refine gate_guard (by rfl) ?_; dsimp only)); refine sqx 1 #[.bool false, .slice A0_1 l0_1.length c0_1, .slice A0_2 l0_2.length c0_2, .slice A0_3 l0_3.length c0_3, .int .i64 a0_4, .slice A0_5 l0_5.length c0_5] 78 ?_; intro gb203 hg w44 hbox hb; have BK203 := Aside0.mk (hbox); have GW203 := sqg HB hg; have GE203 := sqg HB hg; replace HB := sqs HB hb; clear hb hbox hg; have hcz45_0 : w44.cell? ⟨gb203, 0, none⟩ = some (.bool false) := (blk_cell BK203.out 0).trans rfl; have hcz45_1 : w44.cell? ⟨gb203, 1, none⟩ = some (.slice A0_1 l0_1.length c0_1) := (blk_cell BK203.out 1).trans rfl; have hcz45_2 : w44.cell? ⟨gb203, 2, none⟩ = some (.slice A0_2 l0_2.length c0_2) := (blk_cell BK203.out 2).trans rfl; have hcz45_3 : w44.cell? ⟨gb203, 3, none⟩ = some (.slice A0_3 l0_3.length c0_3) := (blk_cell BK203.out 3).trans rfl; have hcz45_4 : w44.cell? ⟨gb203, 4, none⟩ = some (.int .i64 a0_4) := (blk_cell BK203.out 4).trans rfl; have hcz45_5 : w44.cell? ⟨gb203, 5, none⟩ = some (.slice A0_5 l0_5.length c0_5) := (blk_cell BK203.out 5).trans rfl; have hfz45_0 := blk_frozen BK203.out 0; have hfz45_1 := blk_frozen BK203.out 1; have hfz45_2 := blk_frozen BK203.out 2; have hfz45_3 := blk_frozen BK203.out 3; have hfz45_4 := blk_frozen BK203.out 4; have hfz45_5 := blk_frozen BK203.out 5))
      go_ret
      exact sqe HB
    ·rw [if_neg c40] at H
     have c40b0 : ((l0_3.length : Int) == 0) = false := beq_eq_false_iff_ne.mpr c40
     have c40b1 : ((l0_3.length : Int) != 0) = true := bne_iff_ne.mpr c40
     have c40b2 : ¬ (l0_3 = []) := fun h_ => c40 (by rw [h_]; rfl)
     obtain rfl := Option.some.inj H
     go_enter Try.func58, Try.ntmps58
     go_wp2_with (first | ((with_reducible refine gate_dst (N := 1) rfl ?_); (try (refine gate_guard (by rfl) ?_; dsimp only)); refine sqx 1 #[.bool false, .slice A0_1 l0_1.length c0_1, .slice A0_2 l0_2.length c0_2, .slice A0_3 l0_3.length c0_3, .int .i64 a0_4, .slice A0_5 l0_5.length c0_5] 78 ?_; intro gb203 hg w46 hbox hb; have BK203 := Aside0.mk (hbox); have GW203 := sqg HB hg; have GE203 := sqg HB hg; replace HB := sqs HB hb; clear hb hbox hg; have hcz47_0 : w46.cell? ⟨gb203, 0, none⟩ = some (.bool false) := (blk_cell BK203.out 0).trans rfl; have hcz47_1 : w46.cell? ⟨gb203, 1, none⟩ = some (.slice A0_1 l0_1.length c0_1) := (blk_cell BK203.out 1).trans rfl; have hcz47_2 : w46.cell? ⟨gb203, 2, none⟩ = some (.slice A0_2 l0_2.length c0_2) := (blk_cell BK203.out 2).trans rfl; have hcz47_3 : w46.cell? ⟨gb203, 3, none⟩ = some (.slice A0_3 l0_3.length c0_3) := (blk_cell BK203.out 3).trans rfl; have hcz47_4 : w46.cell? ⟨gb203, 4, none⟩ = some (.int .i64 a0_4) := (blk_cell BK203.out 4).trans rfl; have hcz47_5 : w46.cell? ⟨gb203, 5, none⟩ = some (.slice A0_5 l0_5.length c0_5) := (blk_cell BK203.out 5).trans rfl; have hfz47_0 := blk_frozen BK203.out 0; have hfz47_1 := blk_frozen BK203.out 1; have hfz47_2 := blk_frozen BK203.out 2; have hfz47_3 := blk_frozen BK203.out 3; have hfz47_4 := blk_frozen BK203.out 4; have hfz47_5 := blk_frozen BK203.out 5))
     go_ret
     exact sqe HB
   ·rw [if_neg c39] at H
    have c39b0 : ((l0_2.length : Int) == 0) = false := beq_eq_false_iff_ne.mpr c39
    have c39b1 : ((l0_2.length : Int) != 0) = true := bne_iff_ne.mpr c39
    have c39b2 : ¬ (l0_2 = []) := fun h_ => c39 (by rw [h_]; rfl)
    obtain rfl := Option.some.inj H
    go_enter Try.func58, Try.ntmps58
    go_wp2_with (first | ((with_reducible refine gate_dst (N := 1) rfl ?_); (try (refine gate_guard (by rfl) ?_; dsimp only)); refine sqx 1 #[.bool false, .slice A0_1 l0_1.length c0_1, .slice A0_2 l0_2.length c0_2, .slice A0_3 l0_3.length c0_3, .int .i64 a0_4, .slice A0_5 l0_5.length c0_5] 78 ?_; intro gb203 hg w48 hbox hb; have BK203 := Aside0.mk (hbox); have GW203 := sqg HB hg; have GE203 := sqg HB hg; replace HB := sqs HB hb; clear hb hbox hg; have hcz49_0 : w48.cell? ⟨gb203, 0, none⟩ = some (.bool false) := (blk_cell BK203.out 0).trans rfl; have hcz49_1 : w48.cell? ⟨gb203, 1, none⟩ = some (.slice A0_1 l0_1.length c0_1) := (blk_cell BK203.out 1).trans rfl; have hcz49_2 : w48.cell? ⟨gb203, 2, none⟩ = some (.slice A0_2 l0_2.length c0_2) := (blk_cell BK203.out 2).trans rfl; have hcz49_3 : w48.cell? ⟨gb203, 3, none⟩ = some (.slice A0_3 l0_3.length c0_3) := (blk_cell BK203.out 3).trans rfl; have hcz49_4 : w48.cell? ⟨gb203, 4, none⟩ = some (.int .i64 a0_4) := (blk_cell BK203.out 4).trans rfl; have hcz49_5 : w48.cell? ⟨gb203, 5, none⟩ = some (.slice A0_5 l0_5.length c0_5) := (blk_cell BK203.out 5).trans rfl; have hfz49_0 := blk_frozen BK203.out 0; have hfz49_1 := blk_frozen BK203.out 1; have hfz49_2 := blk_frozen BK203.out 2; have hfz49_3 := blk_frozen BK203.out 3; have hfz49_4 := blk_frozen BK203.out 4; have hfz49_5 := blk_frozen BK203.out 5))
    go_ret
    exact sqe HB
  ·rw [if_neg c38] at H
   have c38b0 : ((l0_1.length : Int) == 0) = false := beq_eq_false_iff_ne.mpr c38
   have c38b1 : ((l0_1.length : Int) != 0) = true := bne_iff_ne.mpr c38
   have c38b2 : ¬ (l0_1 = []) := fun h_ => c38 (by rw [h_]; rfl)
   obtain rfl := Option.some.inj H
   go_enter Try.func58, Try.ntmps58
   go_wp2_with (first | ((with_reducible refine gate_dst (N := 1) rfl ?_); (try (refine gate_guard (by rfl) ?_; dsimp only)); refine sqx 1 #[.bool false, .slice A0_1 l0_1.length c0_1, .slice A0_2 l0_2.length c0_2, .slice A0_3 l0_3.length c0_3, .int .i64 a0_4, .slice A0_5 l0_5.length c0_5] 78 ?_; intro gb203 hg w50 hbox hb; have BK203 := Aside0.mk (hbox); have GW203 := sqg HB hg; have GE203 := sqg HB hg; replace HB := sqs HB hb; clear hb hbox hg; have hcz51_0 : w50.cell? ⟨gb203, 0, none⟩ = some (.bool false) := (blk_cell BK203.out 0).trans rfl; have hcz51_1 : w50.cell? ⟨gb203, 1, none⟩ = some (.slice A0_1 l0_1.length c0_1) := (blk_cell BK203.out 1).trans rfl; have hcz51_2 : w50.cell? ⟨gb203, 2, none⟩ = some (.slice A0_2 l0_2.length c0_2) := (blk_cell BK203.out 2).trans rfl; have hcz51_3 : w50.cell? ⟨gb203, 3, none⟩ = some (.slice A0_3 l0_3.length c0_3) := (blk_cell BK203.out 3).trans rfl; have hcz51_4 : w50.cell? ⟨gb203, 4, none⟩ = some (.int .i64 a0_4) := (blk_cell BK203.out 4).trans rfl; have hcz51_5 : w50.cell? ⟨gb203, 5, none⟩ = some (.slice A0_5 l0_5.length c0_5) := (blk_cell BK203.out 5).trans rfl; have hfz51_0 := blk_frozen BK203.out 0; have hfz51_1 := blk_frozen BK203.out 1; have hfz51_2 := blk_frozen BK203.out 2; have hfz51_3 := blk_frozen BK203.out 3; have hfz51_4 := blk_frozen BK203.out 4; have hfz51_5 := blk_frozen BK203.out 5))
   go_ret
   exact sqe HB

/-! ### laws_toVal: function 200 -/
set_option maxHeartbeats 8000000 in
set_option maxRecDepth 100000 in
theorem laws_toVal.calls (a0_0 : Int) (a0_1 : Int) (a0_2 : Int) (a0_3 : Int) (r1 : Int) (r2 : Int) (r3 : Int) (r4 : Int) (w : World) (h : laws_toVal.f a0_0 a0_1 a0_2 a0_3 = some (r1, r2, r3, r4)) :
  Calls Try.prog 200 #[.agg #[.int .i64 a0_0, .int .i64 a0_1, .int .i64 a0_2, .int .i64 a0_3]] w fun e w' => e = .returned (.agg #[.int .i64 r1, .int .i64 r2, .int .i64 r3, .int .i64 r4]) ∧ Below w.heap.size w w' := by
 have hu165 := Try.underlying165
 have hu30 := Try.underlying30
 have HB := Aside0.mk (Below.refl w.heap.size w)
 have H : (some (a0_0, a0_1, a0_2, a0_3)) = some (r1, r2, r3, r4) := h
 clear h
 simp only [Option.some.injEq, Prod.mk.injEq] at H
 obtain ⟨rfl, rfl, rfl, rfl⟩ := H
 go_enter Try.func200, Try.ntmps200
 go_wp2_with (first | ((with_reducible refine gate_dst (N := 1) rfl ?_); refine sqx 1 #[.int .i64 a0_0, .int .i64 a0_1, .int .i64 a0_2, .int .i64 a0_3] 165 ?_; intro gb209 hg w2 hbox hb; have BK209 := Aside0.mk (hbox); have GW209 := sqg HB hg; have GE209 := sqg HB hg; replace HB := sqs HB hb; clear hb hbox hg) | ((with_reducible refine gate_dst (N := 2) rfl ?_); refine sqx 2 #[.int .i64 0, .int .i64 0, .int .i64 0, .int .i64 0] 30 ?_; intro gb210 hg w3 hbox hb; have BK210 := Aside0.mk (hbox); have GW210 := sqg HB hg; have GE210 := sqg HB hg; have NB209_210 := sqn BK209 hg; have NB210_209 := sqm BK209 hg; replace BK209 := sqb BK209 hb; replace HB := sqs HB hb; clear hb hbox hg) | ((with_reducible refine gate_dst (N := 3) rfl ?_); refine sqx 3 #[.int .i64 0, .int .i64 0, .int .i64 0, .int .i64 0] 30 ?_; intro gb211 hg w4 hbox hb; have BK211 := Aside0.mk (hbox); have GW211 := sqg HB hg; have GE211 := sqg HB hg; have NB209_211 := sqn BK209 hg; have NB211_209 := sqm BK209 hg; have NB210_211 := sqn BK210 hg; have NB211_210 := sqm BK210 hg; replace BK209 := sqb BK209 hb; replace BK210 := sqb BK210 hb; replace HB := sqs HB hb; clear hb hbox hg; have hnb5 := NB209_210.out; have hnc5 := NB210_209.out; have hnb6 := NB209_211.out; have hnc6 := NB211_209.out; obtain ⟨hcz7_0, hcz7_1, hcz7_2, hcz7_3, hfz7_0, hfz7_1, hfz7_2, hfz7_3⟩ := sqc4 BK209; have hnb8 := NB211_210.out; have hnc8 := NB210_211.out; obtain ⟨hcz9_0, hcz9_1, hcz9_2, hcz9_3, hfz9_0, hfz9_1, hfz9_2, hfz9_3⟩ := sqc4 BK211; obtain ⟨hcz10_0, hcz10_1, hcz10_2, hcz10_3, hfz10_0, hfz10_1, hfz10_2, hfz10_3⟩ := sqc4 BK210))
 refine bodyPost_ret (results_cell_row rfl _ _ gb210 30 #[.int .i64 a0_0, .int .i64 a0_1, .int .i64 a0_2, .int .i64 a0_3] (0, 0) _ rfl (by refine sqt ?_; refine blk_put (cs := #[.int .i64 a0_0, .int .i64 a0_1, .int .i64 a0_2, .int .i64 0]) ?_ 3 _ rfl; refine sqt ?_; refine blk_put (cs := #[.int .i64 a0_0, .int .i64 a0_1, .int .i64 0, .int .i64 0]) ?_ 2 _ rfl; refine sqt ?_; refine blk_put (cs := #[.int .i64 a0_0, .int .i64 0, .int .i64 0, .int .i64 0]) ?_ 1 _ rfl; refine sqt ?_; refine blk_put (cs := #[.int .i64 0, .int .i64 0, .int .i64 0, .int .i64 0]) ?_ 0 _ rfl; refine sqt ?_; refine blk_far ?_ NB210_211.out _; refine sqt ?_; refine blk_far ?_ NB210_211.out _; refine sqt ?_; refine blk_far ?_ NB210_211.out _; refine sqt ?_; refine blk_far ?_ NB210_211.out _; refine sqt ?_; exact BK210.out) Try.underlying30 rfl (by kernel_rfl)) rfl ?_
 exact sqe HB

/-! ### laws_toValS: function 141 -/
theorem laws_toValS.mono_l : ∀ k, (∀ y0 y1 y2, LeO (laws_toValS.l0 k y0 y1 y2) (laws_toValS.l0 (k + 1) y0 y1 y2))
 | 0 => fun _ _ _ r h => by simp [laws_toValS.l0] at h
 | k + 1 => by
  have ih0 := laws_toValS.mono_l k
  ·intro y0 y1 y2
   unfold laws_toValS.l0
   repeat' first
   | (with_reducible exact ih0 _ _ _)
   | (with_reducible exact LeO.refl _)
   | (with_reducible exact LeO.none _)
   | (with_reducible refine LeO.ite ?_ ?_)
   | (with_reducible refine LeO.bind ?_ (fun _ => ?_))
   | exact ih0 _ _ _
   | exact LeO.none _
   | refine LeO.ite ?_ ?_
   | refine LeO.bind ?_ (fun _ => ?_)
theorem laws_toValS.mono : ∀ a0 k, LeO (laws_toValS.f k a0) (laws_toValS.f (k + 1) a0) := by
 intro a0 k
 have ih0 := laws_toValS.mono_l k
 unfold laws_toValS.f
 repeat' first
   | (with_reducible exact ih0 _ _ _)
   | (with_reducible exact LeO.refl _)
   | (with_reducible exact LeO.none _)
   | (with_reducible refine LeO.ite ?_ ?_)
   | (with_reducible refine LeO.bind ?_ (fun _ => ?_))
   | exact ih0 _ _ _
   | exact LeO.none _
   | refine LeO.ite ?_ ?_
   | refine LeO.bind ?_ (fun _ => ?_)
set_option maxHeartbeats 8000000 in
set_option maxRecDepth 100000 in
theorem laws_toValS.calls (k : Nat) (A0 : Option Addr) (c0 : Nat) (l0 : List (S165)) (r : List (S30)) (w : World) (hr0 : Kd.C k165 w A0 l0.length l0) (hc0 : l0.length ≤ c0) (h : laws_toValS.f k l0 = some r) :
  Calls Try.prog 141 #[.slice A0 l0.length c0] w fun e w' => ∃ v0_ : Value, e = .returned (v0_) ∧ Kd.R k30 30 w' w.heap.size (fun _ => True) v0_ r ∧ Below w.heap.size w w' := by
 have hu165 := Try.underlying165
 have hu30 := Try.underlying30
 have HR0 := Aside0.mk hr0
 have HC0 := Aside0.mk hc0
 clear hr0 hc0
 have HB := Aside0.mk (Below.refl w.heap.size w)
 have H : (if 0 ≤ (l0.length : Int) then (if ((l0.length : Int) : Int).toNat ≤ 8796093022208 then (laws_toValS.l0 k l0 (List.replicate ((l0.length : Int) : Int).toNat z30) 0) else (none)) else (none)) = some r := h
 clear h
 by_cases c2 : 0 ≤ (l0.length : Int)
 ·rw [if_pos c2] at H
  have c2b0 := eq_true c2
  have c2b1 : decide (0 ≤ (l0.length : Int)) = true := decide_eq_true c2
  clear c2
  by_cases c3 : ((l0.length : Int) : Int).toNat ≤ 8796093022208
  ·rw [if_pos c3] at H
   have c3b0 := eq_true c3
   have c3b1 : decide (((l0.length : Int) : Int).toNat ≤ 8796093022208) = true := decide_eq_true c3
   clear c3
   obtain ⟨y212, hy212⟩ : ∃ y_ : List (S30), y_ = (List.replicate ((l0.length : Int) : Int).toNat z30) := ⟨_, rfl⟩
   replace H : (laws_toValS.l0 k l0 y212 0) = some r := by first | (rw [hy212]; with_reducible exact H) | (have H2_ := (Option.bind_some _ _).symm.trans H; rw [hy212]; with_reducible exact H2_) | (have H2_ := (Option.bind_some _ _).symm.trans H; with_reducible exact H2_) | with_reducible exact H | (rw [hy212]; exact H) | exact H
   have Ny212 := Aside0.mk hy212
   clear hy212
   have H' := Aside0.mk H
   clear H
   go_enter Try.func141, Try.ntmps141
   go_wp2_with (first | ((with_reducible refine gate_dst (N := 7) rfl ?_); refine Kd.R_make k30 _ 30 rfl (N := 7) rfl 75 _ _ rfl (l0.length : Int) rfl rfl Try.underlying75 (.agg #[(.int .i64 0), (.int .i64 0), (.int .i64 0), (.int .i64 0)]) 32 info30 rfl (by decide) (by omega) z30 (ok := fun _ => True) (okp := fun _ => True) (k30_mkM _ _ _ z30 ) (fun _ hk => hk) trivial (of_decide_eq_true (by first | (with_reducible assumption) | assumption)) (Nat.le_trans (Nat.mul_le_mul_right _ (of_decide_eq_true (by first | (with_reducible assumption) | assumption) : (l0.length : Int).toNat ≤ 8796093022208)) (by omega)) (Below.refl _ _) (Nat.le_refl _) ?_; intro v213 w4 ho5 hb hg_ hnew_; clear hg_ hnew_; (first | rw [← Ny212.out] at ho5 | (simp only [Int.reduceToNat] at ho5; rw [← Ny212.out] at ho5)); have HO214 := Aside0.mk (Kd.R_lower ho5 (below_size (by repeat (first | (with_reducible first | exact HB.out | apply below_alloc | apply pw_below_drewN | apply below_drew1) | exact HB.out)))); replace HB := sqs HB hb; clear hb ho5))
   go_loopg [4] k (fun kq v4 w' => ∃ (x3_1 : List (S30)) (x4_1 : Int), v4 = .int .i64 x4_1 ∧ Aside0 (laws_toValS.l0 kq l0 x3_1 x4_1 = some r) ∧ Aside0 (kq ≤ k) ∧ Aside0 (Kd.R k30 30 w' w.heap.size (fun _ => True) v213 x3_1) ∧ Aside0 (Below w.heap.size w w'))
   case atStart => exact ⟨(y212), (0), (by first | rfl | (simp; done) | (simp [*]; done)), H', ⟨Nat.le_refl _⟩, ⟨sqy HO214.out⟩, sqh HB⟩
   case round =>
    clear H'
    try clear c1
    try clear c2
    try clear c2b0
    try clear c2b1
    try clear p2
    try clear c3
    try clear c3b0
    try clear c3b1
    obtain ⟨x3_1, x4_1, rfl, HA, HK1, HO_3, HB⟩ := hrel
    cases gk with
    | zero => exact absurd HA.out (by simp [laws_toValS.l0])
    | succ k1 =>
     have H := HA.out
     clear HA
     simp only [laws_toValS.l0] at H
     by_cases c6 : x4_1 < (l0.length : Int)
     ·rw [if_pos c6] at H
      have c6b0 : decide (x4_1 < (l0.length : Int)) = true := decide_eq_true c6
      clear c6
      by_cases c7 : 0 ≤ x4_1
      ·rw [if_pos c7] at H
       have c7b0 : decide (0 ≤ x4_1) = true := decide_eq_true c7
       clear c7
       replace H := Option.bind_eq_some_iff.mp H
       obtain ⟨⟨t216, t217, t218, t219⟩, A80, H⟩ := H
       replace H : (if x4_1 < (x3_1.length : Int) then (laws_toValS.l0 k1 l0 (x3_1.set (x4_1 : Int).toNat (⟨t216, t217, t218, t219⟩ : S30)) (wrap64 (x4_1 + 1))) else (none)) = some r := H
       have A8 := Aside0.mk A80
       clear A80
       by_cases c9 : x4_1 < (x3_1.length : Int)
       ·rw [if_pos c9] at H
        have c9b0 : decide (x4_1 < (x3_1.length : Int)) = true := decide_eq_true c9
        clear c9
        obtain ⟨y220, hy220⟩ : ∃ y_ : List (S30), y_ = (x3_1.set (x4_1 : Int).toNat (⟨t216, t217, t218, t219⟩ : S30)) := ⟨_, rfl⟩
        replace H : (laws_toValS.l0 k1 l0 y220 (wrap64 (x4_1 + 1))) = some r := by first | (rw [hy220]; with_reducible exact H) | (have H2_ := (Option.bind_some _ _).symm.trans H; rw [hy220]; with_reducible exact H2_) | (have H2_ := (Option.bind_some _ _).symm.trans H; with_reducible exact H2_) | with_reducible exact H | (rw [hy220]; exact H) | exact H
        have Ny220 := Aside0.mk hy220
        clear hy220
        have H' := Aside0.mk H
        clear H
        have p215 : 0 ≤ (x4_1 : Int) := of_decide_eq_true (by first | (with_reducible assumption) | assumption)
        have q215 : x4_1 < (l0.length : Int) := of_decide_eq_true (by first | (with_reducible assumption) | assumption)
        obtain ⟨ad215, e215, hx215_0, hx215_1, hx215_2, hx215_3⟩ := at_T165 HR0.out x4_1 p215 q215
        cases e215
        replace hx215_0 := (HB.out.cell (World.block_lt_of_cell? w _ hx215_0)).trans hx215_0
        replace hx215_1 := (HB.out.cell (World.block_lt_of_cell? w _ hx215_1)).trans hx215_1
        replace hx215_2 := (HB.out.cell (World.block_lt_of_cell? w _ hx215_2)).trans hx215_2
        replace hx215_3 := (HB.out.cell (World.block_lt_of_cell? w _ hx215_3)).trans hx215_3
        replace p215 := eq_true p215
        replace q215 := eq_true q215
        go_wp2_with (first | ((with_reducible refine gate_callee (f := 200) rfl ?_); refine sqL (some 20) Try.func200 #[.agg #[.int .i64 ((rd_T165 l0 x4_1).f0), .int .i64 ((rd_T165 l0 x4_1).f1), .int .i64 ((rd_T165 l0 x4_1).f2), .int .i64 ((rd_T165 l0 x4_1).f3)]] ?_; (with_reducible refine (laws_toVal.calls ((rd_T165 l0 x4_1).f0) ((rd_T165 l0 x4_1).f1) ((rd_T165 l0 x4_1).f2) ((rd_T165 l0 x4_1).f3) t216 t217 t218 t219 _ A8.out).mono ?_); rintro e w11 ⟨rfl, hb⟩; refine ⟨_, rfl, ?_⟩; have n0_ := Aside0.mk (Kd.R_below (sqy HO_3.out) hb); have n1_ := sqs HB hb; clear HO_3; clear HB; have HO_3 := n0_; have HB := n1_; clear n0_ n1_; (try clear hb); have p10 : 0 ≤ (x4_1 : Int) := of_decide_eq_true (by first | (with_reducible assumption) | assumption); have q10 : (x4_1 : Int) < ((x3_1.length : Int) : Int) := of_decide_eq_true (by first | (with_reducible assumption) | assumption); obtain ⟨go10, co10, eo10, gb10, gl10, cl10, HG10⟩ := Kd.R_form HO_3.out (by omega); (first | cases eo10 | (injection eo10 with ea_ en_ ec_; (first | subst ea_ | (injection ea_ with ea_; subst ea_)); subst ec_; clear en_)); have GB10 := Aside0.mk gb10; have GG10 := Aside0.mk HG10; clear gb10 gl10 HG10; obtain ⟨ce10, hcl10, hM10, hcc10, hfr10⟩ := Kd.R_elem HO_3.out z30 (x4_1 : Int) p10 q10; obtain rfl := k30_openM hM10; have hx10_0 : w11.cell? ⟨go10, (x4_1 : Int).toNat * 4, none⟩ = some (.int .i64 ((rd_T30 x3_1 x4_1).f0)) := hcc10 0 _ rfl; have hx10_1 : w11.cell? ⟨go10, (x4_1 : Int).toNat * 4 + 1, none⟩ = some (.int .i64 ((rd_T30 x3_1 x4_1).f1)) := hcc10 1 _ rfl; have hx10_2 : w11.cell? ⟨go10, (x4_1 : Int).toNat * 4 + 2, none⟩ = some (.int .i64 ((rd_T30 x3_1 x4_1).f2)) := hcc10 2 _ rfl; have hx10_3 : w11.cell? ⟨go10, (x4_1 : Int).toNat * 4 + 3, none⟩ = some (.int .i64 ((rd_T30 x3_1 x4_1).f3)) := hcc10 3 _ rfl; have hf10_0 : w11.frozen? ⟨go10, (x4_1 : Int).toNat * 4, none⟩ = false := hfr10 0; have hf10_1 : w11.frozen? ⟨go10, (x4_1 : Int).toNat * 4 + 1, none⟩ = false := hfr10 1; have hf10_2 : w11.frozen? ⟨go10, (x4_1 : Int).toNat * 4 + 2, none⟩ = false := hfr10 2; have hf10_3 : w11.frozen? ⟨go10, (x4_1 : Int).toNat * 4 + 3, none⟩ = false := hfr10 3; clear hcl10 hcc10 hfr10 hM10; replace p10 := eq_true p10; replace q10 := eq_true q10; have HX12 := Aside0.mk (show Kd.R k30 30 w11 w.heap.size (fun _ => True) (.slice (some ⟨go10, 0, none⟩) x3_1.length co10) x3_1 from (sqy HO_3.out)); obtain ⟨ce12, hcl12, hM12, hcc12, hfr12⟩ := Kd.R_elem HX12.out z30 (x4_1 : Int) (of_decide_eq_true (by first | (with_reducible assumption) | assumption)) (by have h_ : (x4_1 : Int) < ((x3_1.length : Int) : Int) := of_decide_eq_true (by first | (with_reducible assumption) | assumption); first | exact h_ | (have e_ := (Kd.R_reads' HO_3.out).1; omega) | simpa using h_); obtain rfl := k30_openM hM12; have HP12 := Kd.R_seg HX12.out (x4_1 : Int) (of_decide_eq_true (by first | (with_reducible assumption) | assumption)) (by have h_ : (x4_1 : Int) < ((x3_1.length : Int) : Int) := of_decide_eq_true (by first | (with_reducible assumption) | assumption); first | exact h_ | (have e_ := (Kd.R_reads' HO_3.out).1; omega) | simpa using h_) (seg := [.int .i64 t216, .int .i64 t217, .int .i64 t218, .int .i64 t219]) (j := 0) hcl12 hcc12 (show 4 ≤ 4 from by decide) (x' := (⟨t216, t217, t218, t219⟩ : S30)) (k30_mkM _ _ _ (⟨t216, t217, t218, t219⟩ : S30) ) (fun _ hk => hk); have hx12_0 := hcc12 0 _ rfl; (try simp only [show (k30).sz = 4 from rfl, Nat.mul_one, Nat.add_zero] at hx12_0); have hf12_0 := hfr12 0; (try simp only [show (k30).sz = 4 from rfl, Nat.mul_one, Nat.add_zero] at hf12_0); have hx12_1 := hcc12 1 _ rfl; (try simp only [show (k30).sz = 4 from rfl, Nat.mul_one, Nat.add_zero] at hx12_1); have hf12_1 := hfr12 1; (try simp only [show (k30).sz = 4 from rfl, Nat.mul_one, Nat.add_zero] at hf12_1); have hx12_2 := hcc12 2 _ rfl; (try simp only [show (k30).sz = 4 from rfl, Nat.mul_one, Nat.add_zero] at hx12_2); have hf12_2 := hfr12 2; (try simp only [show (k30).sz = 4 from rfl, Nat.mul_one, Nat.add_zero] at hf12_2); have hx12_3 := hcc12 3 _ rfl; (try simp only [show (k30).sz = 4 from rfl, Nat.mul_one, Nat.add_zero] at hx12_3); have hf12_3 := hfr12 3; (try simp only [show (k30).sz = 4 from rfl, Nat.mul_one, Nat.add_zero] at hf12_3); clear hcl12 hcc12 hfr12 hM12) | ((with_reducible refine gate_store (t := 30) (p := 21) rfl ?_); refine store_event (t := 30) (p := 21) (v := ?vo_w13) (w1 := ((((w11.setCell ⟨go10, (x4_1 : Int).toNat * 4, none⟩ (.int .i64 t216)).setCell ⟨go10, (x4_1 : Int).toNat * 4 + 1, none⟩ (.int .i64 t217)).setCell ⟨go10, (x4_1 : Int).toNat * 4 + 2, none⟩ (.int .i64 t218)).setCell ⟨go10, (x4_1 : Int).toNat * 4 + 3, none⟩ (.int .i64 t219))) ?hg ?ho ?hn ?hr ?_; (case ho => rfl); (case hg => rfl); (case hn => rfl); (case hr => first | (go_simp; done) | (go_simp; rfl)); intro w13 hw; have hg : w11.grownBy w13 (some go10) := (by rw [hw]; exact HP12.2); have hp_ : Kd.R k30 30 w13 w.heap.size (fun _ => True) (.slice (some ⟨go10, 0, none⟩) x3_1.length co10) y220 := (by rw [hw, Ny220.out]; exact HP12.1); clear HP12; have n0_ := Aside0.mk (hp_); have n1_ := Aside0.mk ((by rw [hw]; exact below_set (below_set (below_set (below_set (HB.out) GB10.out) GB10.out) GB10.out) GB10.out : Below w.heap.size w w13)); clear HO_3; clear HB; have HO_3 := n0_; have HB := n1_; clear n0_ n1_; clear hg hw hp_))
        go_roundg k1
        case measure => have := HK1.out; omega
        case rel => exact ⟨(y220), (wrap64 (x4_1 + 1)), (by first | rfl | (simp; done) | (simp [*]; done)), H', ⟨by have := HK1.out; omega⟩, ⟨sqy HO_3.out⟩, sqh HB⟩
       ·rw [if_neg c9] at H
        exact absurd H (by simp)
      ·rw [if_neg c7] at H
       exact absurd H (by simp)
     ·rw [if_neg c6] at H
      have c6b0 : decide (x4_1 < (l0.length : Int)) = false := decide_eq_false c6
      clear c6
      obtain rfl := Option.some.inj H
      go_wp2
      go_ret
      exact ⟨_, by first | rfl | (simp [errW_none, errW_some] <;> rfl) | (simp [*, errW_none, errW_some] <;> rfl), by (with_reducible repeat (first | apply Kd.R_alloc | apply Kd.R_drewN | apply Kd.R_drew)); exact HO_3.out, by repeat (first | (with_reducible first | exact HB.out | apply below_alloc | apply pw_below_drewN | apply below_drew1) | exact HB.out)⟩
  ·rw [if_neg c3] at H
   exact absurd H (by simp)
 ·rw [if_neg c2] at H
  exact absurd H (by simp)

/-! ### laws_toIntS: function 202 -/
theorem laws_toIntS.mono_l : ∀ k, (∀ y0 y1 y2, LeO (laws_toIntS.l0 k y0 y1 y2) (laws_toIntS.l0 (k + 1) y0 y1 y2))
 | 0 => fun _ _ _ r h => by simp [laws_toIntS.l0] at h
 | k + 1 => by
  have ih0 := laws_toIntS.mono_l k
  ·intro y0 y1 y2
   unfold laws_toIntS.l0
   repeat' first
   | (with_reducible exact ih0 _ _ _)
   | (with_reducible exact LeO.refl _)
   | (with_reducible exact LeO.none _)
   | (with_reducible refine LeO.ite ?_ ?_)
   | (with_reducible refine LeO.bind ?_ (fun _ => ?_))
   | exact ih0 _ _ _
   | exact LeO.none _
   | refine LeO.ite ?_ ?_
   | refine LeO.bind ?_ (fun _ => ?_)
theorem laws_toIntS.mono : ∀ a0 k, LeO (laws_toIntS.f k a0) (laws_toIntS.f (k + 1) a0) := by
 intro a0 k
 have ih0 := laws_toIntS.mono_l k
 unfold laws_toIntS.f
 repeat' first
   | (with_reducible exact ih0 _ _ _)
   | (with_reducible exact LeO.refl _)
   | (with_reducible exact LeO.none _)
   | (with_reducible refine LeO.ite ?_ ?_)
   | (with_reducible refine LeO.bind ?_ (fun _ => ?_))
   | exact ih0 _ _ _
   | exact LeO.none _
   | refine LeO.ite ?_ ?_
   | refine LeO.bind ?_ (fun _ => ?_)
set_option maxHeartbeats 8000000 in
set_option maxRecDepth 100000 in
theorem laws_toIntS.calls (k : Nat) (A0 : Option Addr) (c0 : Nat) (l0 : List Int) (r : List Int) (w : World) (hr0 : Kd.C (Kd.int .i64) w A0 l0.length l0) (hc0 : l0.length ≤ c0) (h : laws_toIntS.f k l0 = some r) :
  Calls Try.prog 202 #[.slice A0 l0.length c0] w fun e w' => ∃ v0_ : Value, e = .returned (v0_) ∧ Kd.R (Kd.int .i64) 3 w' w.heap.size (fun _ => True) v0_ r ∧ Below w.heap.size w w' := by
 have HR0 := Aside0.mk hr0
 have HC0 := Aside0.mk hc0
 clear hr0 hc0
 have HB := Aside0.mk (Below.refl w.heap.size w)
 have H : (if 0 ≤ (l0.length : Int) then (if ((l0.length : Int) : Int).toNat ≤ 35184372088832 then (laws_toIntS.l0 k l0 (List.replicate ((l0.length : Int) : Int).toNat 0) 0) else (none)) else (none)) = some r := h
 clear h
 by_cases c2 : 0 ≤ (l0.length : Int)
 ·rw [if_pos c2] at H
  have c2b0 := eq_true c2
  have c2b1 : decide (0 ≤ (l0.length : Int)) = true := decide_eq_true c2
  clear c2
  by_cases c3 : ((l0.length : Int) : Int).toNat ≤ 35184372088832
  ·rw [if_pos c3] at H
   have c3b0 := eq_true c3
   have c3b1 : decide (((l0.length : Int) : Int).toNat ≤ 35184372088832) = true := decide_eq_true c3
   clear c3
   obtain ⟨y221, hy221⟩ : ∃ y_ : List Int, y_ = (List.replicate ((l0.length : Int) : Int).toNat 0) := ⟨_, rfl⟩
   replace H : (laws_toIntS.l0 k l0 y221 0) = some r := by first | (rw [hy221]; with_reducible exact H) | (have H2_ := (Option.bind_some _ _).symm.trans H; rw [hy221]; with_reducible exact H2_) | (have H2_ := (Option.bind_some _ _).symm.trans H; with_reducible exact H2_) | with_reducible exact H | (rw [hy221]; exact H) | exact H
   have Ny221 := Aside0.mk hy221
   clear hy221
   have H' := Aside0.mk H
   clear H
   go_enter Try.func202, Try.ntmps202
   go_wp2_with (first | ((with_reducible refine gate_dst (N := 7) rfl ?_); refine Kd.R_make (Kd.int .i64) _ 3 rfl (N := 7) rfl 39 _ _ rfl (l0.length : Int) rfl rfl Try.underlying39 (.int .i64 0) 8 info3 rfl (by decide) (by omega) 0 (ok := fun _ => True) (okp := fun _ => True) rfl (fun _ hk => hk) trivial (of_decide_eq_true (by first | (with_reducible assumption) | assumption)) (Nat.le_trans (Nat.mul_le_mul_right _ (of_decide_eq_true (by first | (with_reducible assumption) | assumption) : (l0.length : Int).toNat ≤ 35184372088832)) (by omega)) (Below.refl _ _) (Nat.le_refl _) ?_; intro v222 w4 ho5 hb hg_ hnew_; clear hg_ hnew_; (first | rw [← Ny221.out] at ho5 | (simp only [Int.reduceToNat] at ho5; rw [← Ny221.out] at ho5)); have HO223 := Aside0.mk (Kd.R_lower ho5 (below_size (by repeat (first | (with_reducible first | exact HB.out | apply below_alloc | apply pw_below_drewN | apply below_drew1) | exact HB.out)))); replace HB := sqs HB hb; clear hb ho5))
   go_loopg [4] k (fun kq v4 w' => ∃ (x3_1 : List Int) (x4_1 : Int), v4 = .int .i64 x4_1 ∧ Aside0 (laws_toIntS.l0 kq l0 x3_1 x4_1 = some r) ∧ Aside0 (kq ≤ k) ∧ Aside0 (Kd.R (Kd.int .i64) 3 w' w.heap.size (fun _ => True) v222 x3_1) ∧ Aside0 (Below w.heap.size w w'))
   case atStart => exact ⟨(y221), (0), (by first | rfl | (simp; done) | (simp [*]; done)), H', ⟨Nat.le_refl _⟩, ⟨sqy HO223.out⟩, sqh HB⟩
   case round =>
    clear H'
    try clear c2
    try clear c2b0
    try clear c2b1
    try clear p2
    try clear c3
    try clear c3b0
    try clear c3b1
    obtain ⟨x3_1, x4_1, rfl, HA, HK1, HO_3, HB⟩ := hrel
    cases gk with
    | zero => exact absurd HA.out (by simp [laws_toIntS.l0])
    | succ k1 =>
     have H := HA.out
     clear HA
     simp only [laws_toIntS.l0] at H
     by_cases c6 : x4_1 < (l0.length : Int)
     ·rw [if_pos c6] at H
      have c6b0 : decide (x4_1 < (l0.length : Int)) = true := decide_eq_true c6
      clear c6
      by_cases c7 : 0 ≤ x4_1
      ·rw [if_pos c7] at H
       have c7b0 : decide (0 ≤ x4_1) = true := decide_eq_true c7
       clear c7
       by_cases c8 : x4_1 < (x3_1.length : Int)
       ·rw [if_pos c8] at H
        have c8b0 : decide (x4_1 < (x3_1.length : Int)) = true := decide_eq_true c8
        clear c8
        obtain ⟨y225, hy225⟩ : ∃ y_ : List Int, y_ = (x3_1.set (x4_1 : Int).toNat (rd l0 x4_1)) := ⟨_, rfl⟩
        replace H : (laws_toIntS.l0 k1 l0 y225 (wrap64 (x4_1 + 1))) = some r := by first | (rw [hy225]; with_reducible exact H) | (have H2_ := (Option.bind_some _ _).symm.trans H; rw [hy225]; with_reducible exact H2_) | (have H2_ := (Option.bind_some _ _).symm.trans H; with_reducible exact H2_) | with_reducible exact H | (rw [hy225]; exact H) | exact H
        have Ny225 := Aside0.mk hy225
        clear hy225
        have H' := Aside0.mk H
        clear H
        have p224 : 0 ≤ (x4_1 : Int) := of_decide_eq_true (by first | (with_reducible assumption) | assumption)
        have q224 : x4_1 < (l0.length : Int) := of_decide_eq_true (by first | (with_reducible assumption) | assumption)
        obtain ⟨ad224, e224, hx224_0⟩ := Kd.at_int HR0.out x4_1 p224 q224
        cases e224
        replace hx224_0 := (HB.out.cell (World.block_lt_of_cell? w _ hx224_0)).trans hx224_0
        replace p224 := eq_true p224
        replace q224 := eq_true q224
        have p9 : 0 ≤ (x4_1 : Int) := of_decide_eq_true (by first | (with_reducible assumption) | assumption)
        have q9 : (x4_1 : Int) < ((x3_1.length : Int) : Int) := of_decide_eq_true (by first | (with_reducible assumption) | assumption)
        obtain ⟨go9, co9, eo9, gb9, gl9, cl9, HG9⟩ := Kd.R_form HO_3.out (by omega)
        (first | cases eo9 | (injection eo9 with ea_ en_ ec_; (first | subst ea_ | (injection ea_ with ea_; subst ea_)); subst ec_; clear en_))
        have GB9 := Aside0.mk gb9
        have GG9 := Aside0.mk HG9
        clear gb9 gl9 HG9
        obtain ⟨hx9_0, hf9_0⟩ := Kd.R_celln 0 HO_3.out (x4_1 : Int) p9 q9
        replace p9 := eq_true p9
        replace q9 := eq_true q9
        have HP10 := Kd.R_putg HO_3.out (x4_1 : Int) (rd l0 x4_1)
        go_wp2_with (first | ((with_reducible refine gate_store (t := 3) (p := 20) rfl ?_); refine store_event (t := 3) (p := 20) (v := ?vo_w11) (w1 := (wr.setCell ⟨go9, (x4_1 : Int).toNat, none⟩ (.int .i64 (rd l0 x4_1)))) ?hg ?ho ?hn ?hr ?_; (case ho => rfl); (case hg => rfl); (case hn => rfl); (case hr => first | (go_simp; done) | (go_simp; rfl)); intro w11 hw; have hg : wr.grownBy w11 (some go9) := (by rw [hw]; exact HP10.2); have hp_ : Kd.R (Kd.int .i64) 3 w11 w.heap.size (fun _ => True) (.slice (some ⟨go9, 0, none⟩) x3_1.length co9) y225 := (by rw [hw, Ny225.out]; exact HP10.1); clear HP10; have n0_ := Aside0.mk (hp_); have n1_ := Aside0.mk ((by rw [hw]; exact below_set (HB.out) GB9.out : Below w.heap.size w w11)); clear HO_3; clear HB; have HO_3 := n0_; have HB := n1_; clear n0_ n1_; clear hg hw hp_))
        go_roundg k1
        case measure => have := HK1.out; omega
        case rel => exact ⟨(y225), (wrap64 (x4_1 + 1)), (by first | rfl | (simp; done) | (simp [*]; done)), H', ⟨by have := HK1.out; omega⟩, ⟨sqy HO_3.out⟩, sqh HB⟩
       ·rw [if_neg c8] at H
        exact absurd H (by simp)
      ·rw [if_neg c7] at H
       exact absurd H (by simp)
     ·rw [if_neg c6] at H
      have c6b0 : decide (x4_1 < (l0.length : Int)) = false := decide_eq_false c6
      clear c6
      obtain rfl := Option.some.inj H
      go_wp2
      go_ret
      exact ⟨_, by first | rfl | (simp [errW_none, errW_some] <;> rfl) | (simp [*, errW_none, errW_some] <;> rfl), by (with_reducible repeat (first | apply Kd.R_alloc | apply Kd.R_drewN | apply Kd.R_drew)); exact HO_3.out, by repeat (first | (with_reducible first | exact HB.out | apply below_alloc | apply pw_below_drewN | apply below_drew1) | exact HB.out)⟩
  ·rw [if_neg c3] at H
   exact absurd H (by simp)
 ·rw [if_neg c2] at H
  exact absurd H (by simp)

/-! ### laws_toRefVal: function 201 -/
theorem laws_toRefVal.mono : ∀ a0 a1 a2 a3 a4 a5 k, LeO (laws_toRefVal.f k a0 a1 a2 a3 a4 a5) (laws_toRefVal.f (k + 1) a0 a1 a2 a3 a4 a5) := by
 intro a0 a1 a2 a3 a4 a5 k
 unfold laws_toRefVal.f
 repeat' first
   | (with_reducible exact laws_toIntS.mono _ _)
   | (with_reducible exact LeO.refl _)
   | (with_reducible exact LeO.none _)
   | (with_reducible refine LeO.ite ?_ ?_)
   | (with_reducible refine LeO.bind ?_ (fun _ => ?_))
   | exact laws_toIntS.mono _ _
   | exact LeO.none _
   | refine LeO.ite ?_ ?_
   | refine LeO.bind ?_ (fun _ => ?_)
set_option maxHeartbeats 8000000 in
set_option maxRecDepth 100000 in
theorem laws_toRefVal.calls (k : Nat) (a0_0 : Bool) (A0_1 : Option Addr) (c0_1 : Nat) (l0_1 : List Int) (a0_2 : Int) (a0_3 : Int) (a0_4 : Int) (a0_5 : Int) (r1 : Bool) (r2 : List Int) (r3 : Int) (r4 : Int) (r5 : Int) (r6 : Int) (w : World) (hr0_1 : Kd.C (Kd.int .i64) w A0_1 l0_1.length l0_1) (hc0_1 : l0_1.length ≤ c0_1) (h : laws_toRefVal.f k a0_0 l0_1 a0_2 a0_3 a0_4 a0_5 = some (r1, r2, r3, r4, r5, r6)) :
  Calls Try.prog 201 #[.agg #[.bool a0_0, .slice A0_1 l0_1.length c0_1, .int .i64 a0_2, .int .i64 a0_3, .int .i64 a0_4, .int .i64 a0_5]] w fun e w' => ∃ v1_ : Value, e = .returned (.agg #[.bool r1, v1_, .int .i64 r3, .int .i64 r4, .int .i64 r5, .int .i64 r6]) ∧ Kd.R (Kd.int .i64) 3 w' w.heap.size (fun _ => True) v1_ r2 ∧ Below w.heap.size w w' := by
 have hu167 := Try.underlying167
 have hu132 := Try.underlying132
 have hu165 := Try.underlying165
 have hu30 := Try.underlying30
 have HR0_1 := Aside0.mk hr0_1
 have HC0_1 := Aside0.mk hc0_1
 clear hr0_1 hc0_1
 have HB := Aside0.mk (Below.refl w.heap.size w)
 have H : ((laws_toIntS.f k l0_1).bind fun t229 => ((laws_toVal.f a0_2 a0_3 a0_4 a0_5).bind fun bt232 => (some (a0_0, t229, bt232.1, bt232.2.1, bt232.2.2.1, bt232.2.2.2)))) = some (r1, r2, r3, r4, r5, r6) := h
 clear h
 replace H := Option.bind_eq_some_iff.mp H
 obtain ⟨t229, A20, H⟩ := H
 replace H : ((laws_toVal.f a0_2 a0_3 a0_4 a0_5).bind fun bt232 => (some (a0_0, t229, bt232.1, bt232.2.1, bt232.2.2.1, bt232.2.2.2))) = some (r1, r2, r3, r4, r5, r6) := H
 have A2 := Aside0.mk A20
 clear A20
 replace H := Option.bind_eq_some_iff.mp H
 obtain ⟨⟨t232, t233, t234, t235⟩, A30, H⟩ := H
 replace H : (some (a0_0, t229, t232, t233, t234, t235)) = some (r1, r2, r3, r4, r5, r6) := H
 have A3 := Aside0.mk A30
 clear A30
 simp only [Option.some.injEq, Prod.mk.injEq] at H
 obtain ⟨rfl, rfl, rfl, rfl, rfl, rfl⟩ := H
 go_enter Try.func201, Try.ntmps201
 go_wp2_with (first | ((with_reducible refine gate_dst (N := 1) rfl ?_); refine sqx 1 #[.bool a0_0, .slice A0_1 l0_1.length c0_1, .int .i64 a0_2, .int .i64 a0_3, .int .i64 a0_4, .int .i64 a0_5] 167 ?_; intro gb226 hg w4 hbox hb; have BK226 := Aside0.mk (hbox); have GW226 := sqg HB hg; have GE226 := sqg HB hg; replace HB := sqs HB hb; clear hb hbox hg) | ((with_reducible refine gate_dst (N := 2) rfl ?_); refine sqx 2 #[.bool false, .slice none 0 0, .int .i64 0, .int .i64 0, .int .i64 0, .int .i64 0] 132 ?_; intro gb227 hg w5 hbox hb; have BK227 := Aside0.mk (hbox); have GW227 := sqg HB hg; have GE227 := sqg HB hg; have NB226_227 := sqn BK226 hg; have NB227_226 := sqm BK226 hg; replace BK226 := sqb BK226 hb; replace HB := sqs HB hb; clear hb hbox hg) | ((with_reducible refine gate_dst (N := 3) rfl ?_); refine sqx 3 #[.bool false, .slice none 0 0, .int .i64 0, .int .i64 0, .int .i64 0, .int .i64 0] 132 ?_; intro gb228 hg w6 hbox hb; have BK228 := Aside0.mk (hbox); have GW228 := sqg HB hg; have GE228 := sqg HB hg; have NB226_228 := sqn BK226 hg; have NB228_226 := sqm BK226 hg; have NB227_228 := sqn BK227 hg; have NB228_227 := sqm BK227 hg; replace BK226 := sqb BK226 hb; replace BK227 := sqb BK227 hb; replace HB := sqs HB hb; clear hb hbox hg; have hnb7 := NB226_227.out; have hnc7 := NB227_226.out; have hnb8 := NB226_228.out; have hnc8 := NB228_226.out; have hcz9_0 : w6.cell? ⟨gb226, 0, none⟩ = some (.bool a0_0) := (blk_cell BK226.out 0).trans rfl; have hcz9_1 : w6.cell? ⟨gb226, 1, none⟩ = some (.slice A0_1 l0_1.length c0_1) := (blk_cell BK226.out 1).trans rfl; have hcz9_2 : w6.cell? ⟨gb226, 2, none⟩ = some (.int .i64 a0_2) := (blk_cell BK226.out 2).trans rfl; have hcz9_3 : w6.cell? ⟨gb226, 3, none⟩ = some (.int .i64 a0_3) := (blk_cell BK226.out 3).trans rfl; have hcz9_4 : w6.cell? ⟨gb226, 4, none⟩ = some (.int .i64 a0_4) := (blk_cell BK226.out 4).trans rfl; have hcz9_5 : w6.cell? ⟨gb226, 5, none⟩ = some (.int .i64 a0_5) := (blk_cell BK226.out 5).trans rfl; have hfz9_0 := blk_frozen BK226.out 0; have hfz9_1 := blk_frozen BK226.out 1; have hfz9_2 := blk_frozen BK226.out 2; have hfz9_3 := blk_frozen BK226.out 3; have hfz9_4 := blk_frozen BK226.out 4; have hfz9_5 := blk_frozen BK226.out 5; have hnb10 := NB228_227.out; have hnc10 := NB227_228.out; have hcz11_0 : w6.cell? ⟨gb228, 0, none⟩ = some (.bool false) := (blk_cell BK228.out 0).trans rfl; have hcz11_1 : w6.cell? ⟨gb228, 1, none⟩ = some (.slice none 0 0) := (blk_cell BK228.out 1).trans rfl; have hcz11_2 : w6.cell? ⟨gb228, 2, none⟩ = some (.int .i64 0) := (blk_cell BK228.out 2).trans rfl; have hcz11_3 : w6.cell? ⟨gb228, 3, none⟩ = some (.int .i64 0) := (blk_cell BK228.out 3).trans rfl; have hcz11_4 : w6.cell? ⟨gb228, 4, none⟩ = some (.int .i64 0) := (blk_cell BK228.out 4).trans rfl; have hcz11_5 : w6.cell? ⟨gb228, 5, none⟩ = some (.int .i64 0) := (blk_cell BK228.out 5).trans rfl; have hfz11_0 := blk_frozen BK228.out 0; have hfz11_1 := blk_frozen BK228.out 1; have hfz11_2 := blk_frozen BK228.out 2; have hfz11_3 := blk_frozen BK228.out 3; have hfz11_4 := blk_frozen BK228.out 4; have hfz11_5 := blk_frozen BK228.out 5) | ((with_reducible refine gate_callee (f := 202) rfl ?_); refine sqL (some 9) Try.func202 #[.slice A0_1 l0_1.length c0_1] ?_; (with_reducible refine (laws_toIntS.calls k _ _ l0_1 t229 _ ?side1 ?side2 A2.out).mono ?_); (case side1 => exact Kd.C_below HR0_1.out (by repeat (first | (with_reducible first | exact HB.out | apply below_alloc | apply pw_below_drewN | apply below_drew1 | refine below_set ?_ GE226.out | refine below_set ?_ GE227.out | refine below_set ?_ GE228.out) | exact HB.out))); (case side2 => exact HC0_1.out); rintro e w12 ⟨v230, rfl, ho0, hb⟩; refine ⟨_, rfl, ?_⟩; have n0_ := Aside0.mk (Kd.R_lower ho0 (below_size (by repeat (first | (with_reducible first | exact HB.out | apply below_alloc | apply pw_below_drewN | apply below_drew1 | refine below_set ?_ GE226.out | refine below_set ?_ GE227.out | refine below_set ?_ GE228.out) | exact HB.out)))); have n1_ := Aside0.mk (blk_below (g := gb226) (o := .cells #[.bool a0_0, .slice A0_1 l0_1.length c0_1, .int .i64 a0_2, .int .i64 a0_3, .int .i64 a0_4, .int .i64 a0_5] 167 (0, 0)) (by refine sqt ?_; refine blk_far ?_ NB226_228.out _; refine sqt ?_; exact BK226.out) hb); have n2_ := Aside0.mk (blk_below (g := gb227) (o := .cells #[.bool false, .slice none 0 0, .int .i64 0, .int .i64 0, .int .i64 0, .int .i64 0] 132 (0, 0)) (by refine sqt ?_; refine blk_far ?_ NB227_228.out _; refine sqt ?_; exact BK227.out) hb); have n3_ := Aside0.mk (blk_below (g := gb228) (o := .cells #[.bool a0_0, .slice none 0 0, .int .i64 0, .int .i64 0, .int .i64 0, .int .i64 0] 132 (0, 0)) (by refine sqt ?_; refine blk_put (cs := #[.bool false, .slice none 0 0, .int .i64 0, .int .i64 0, .int .i64 0, .int .i64 0]) ?_ 0 _ rfl; refine sqt ?_; exact BK228.out) hb); have n4_ := sqs HB hb; clear BK226; clear BK227; clear BK228; clear HB; have HO231 := n0_; have BK226 := n1_; have BK227 := n2_; have BK228 := n3_; have HB := n4_; clear n0_ n1_ n2_ n3_ n4_; (try clear hb); (try clear hb2); (try clear hk); (try clear hi); (try clear ho0); obtain ⟨Ao13, co13, eo13⟩ := Kd.R_slice HO231.out; subst eo13; have hcz14_0 : w12.cell? ⟨gb228, 0, none⟩ = some (.bool a0_0) := (blk_cell BK228.out 0).trans rfl; have hcz14_1 : w12.cell? ⟨gb228, 1, none⟩ = some (.slice none 0 0) := (blk_cell BK228.out 1).trans rfl; have hcz14_2 : w12.cell? ⟨gb228, 2, none⟩ = some (.int .i64 0) := (blk_cell BK228.out 2).trans rfl; have hcz14_3 : w12.cell? ⟨gb228, 3, none⟩ = some (.int .i64 0) := (blk_cell BK228.out 3).trans rfl; have hcz14_4 : w12.cell? ⟨gb228, 4, none⟩ = some (.int .i64 0) := (blk_cell BK228.out 4).trans rfl; have hcz14_5 : w12.cell? ⟨gb228, 5, none⟩ = some (.int .i64 0) := (blk_cell BK228.out 5).trans rfl; have hfz14_0 := blk_frozen BK228.out 0; have hfz14_1 := blk_frozen BK228.out 1; have hfz14_2 := blk_frozen BK228.out 2; have hfz14_3 := blk_frozen BK228.out 3; have hfz14_4 := blk_frozen BK228.out 4; have hfz14_5 := blk_frozen BK228.out 5; have hcz15_0 : w12.cell? ⟨gb226, 0, none⟩ = some (.bool a0_0) := (blk_cell BK226.out 0).trans rfl; have hcz15_1 : w12.cell? ⟨gb226, 1, none⟩ = some (.slice A0_1 l0_1.length c0_1) := (blk_cell BK226.out 1).trans rfl; have hcz15_2 : w12.cell? ⟨gb226, 2, none⟩ = some (.int .i64 a0_2) := (blk_cell BK226.out 2).trans rfl; have hcz15_3 : w12.cell? ⟨gb226, 3, none⟩ = some (.int .i64 a0_3) := (blk_cell BK226.out 3).trans rfl; have hcz15_4 : w12.cell? ⟨gb226, 4, none⟩ = some (.int .i64 a0_4) := (blk_cell BK226.out 4).trans rfl; have hcz15_5 : w12.cell? ⟨gb226, 5, none⟩ = some (.int .i64 a0_5) := (blk_cell BK226.out 5).trans rfl; have hfz15_0 := blk_frozen BK226.out 0; have hfz15_1 := blk_frozen BK226.out 1; have hfz15_2 := blk_frozen BK226.out 2; have hfz15_3 := blk_frozen BK226.out 3; have hfz15_4 := blk_frozen BK226.out 4; have hfz15_5 := blk_frozen BK226.out 5) | ((with_reducible refine gate_callee (f := 200) rfl ?_); refine sqL (some 13) Try.func200 #[.agg #[.int .i64 a0_2, .int .i64 a0_3, .int .i64 a0_4, .int .i64 a0_5]] ?_; (with_reducible refine (laws_toVal.calls a0_2 a0_3 a0_4 a0_5 t232 t233 t234 t235 _ A3.out).mono ?_); rintro e w16 ⟨rfl, hb⟩; refine ⟨_, rfl, ?_⟩; have n0_ := Aside0.mk (Kd.R_below (by (with_reducible repeat (first | apply Kd.R_alloc | apply Kd.R_drewN | apply Kd.R_drew)); exact (Kd.R_mono (Kd.R_far (p := ⟨gb228, 1, none⟩) (Kd.R_types HO231.out BK228.out (by decide)) (fun _ hk => hk.2) (.slice Ao13 t229.length co13)) (fun _ h_ => h_.1))) hb); have n1_ := Aside0.mk (blk_below (g := gb226) (o := .cells #[.bool a0_0, .slice A0_1 l0_1.length c0_1, .int .i64 a0_2, .int .i64 a0_3, .int .i64 a0_4, .int .i64 a0_5] 167 (0, 0)) (by refine sqt ?_; refine blk_far ?_ NB226_228.out _; refine sqt ?_; exact BK226.out) hb); have n2_ := Aside0.mk (blk_below (g := gb227) (o := .cells #[.bool false, .slice none 0 0, .int .i64 0, .int .i64 0, .int .i64 0, .int .i64 0] 132 (0, 0)) (by refine sqt ?_; refine blk_far ?_ NB227_228.out _; refine sqt ?_; exact BK227.out) hb); have n3_ := Aside0.mk (blk_below (g := gb228) (o := .cells #[.bool a0_0, .slice Ao13 t229.length co13, .int .i64 0, .int .i64 0, .int .i64 0, .int .i64 0] 132 (0, 0)) (by refine sqt ?_; refine blk_put (cs := #[.bool a0_0, .slice none 0 0, .int .i64 0, .int .i64 0, .int .i64 0, .int .i64 0]) ?_ 1 _ rfl; refine sqt ?_; exact BK228.out) hb); have n4_ := sqs HB hb; clear HO231; clear BK226; clear BK227; clear BK228; clear HB; have HO231 := n0_; have BK226 := n1_; have BK227 := n2_; have BK228 := n3_; have HB := n4_; clear n0_ n1_ n2_ n3_ n4_; (try clear hb); (try clear hb2); (try clear hk); (try clear hi); have hcz17_0 : w16.cell? ⟨gb228, 0, none⟩ = some (.bool a0_0) := (blk_cell BK228.out 0).trans rfl; have hcz17_1 : w16.cell? ⟨gb228, 1, none⟩ = some (.slice Ao13 t229.length co13) := (blk_cell BK228.out 1).trans rfl; have hcz17_2 : w16.cell? ⟨gb228, 2, none⟩ = some (.int .i64 0) := (blk_cell BK228.out 2).trans rfl; have hcz17_3 : w16.cell? ⟨gb228, 3, none⟩ = some (.int .i64 0) := (blk_cell BK228.out 3).trans rfl; have hcz17_4 : w16.cell? ⟨gb228, 4, none⟩ = some (.int .i64 0) := (blk_cell BK228.out 4).trans rfl; have hcz17_5 : w16.cell? ⟨gb228, 5, none⟩ = some (.int .i64 0) := (blk_cell BK228.out 5).trans rfl; have hfz17_0 := blk_frozen BK228.out 0; have hfz17_1 := blk_frozen BK228.out 1; have hfz17_2 := blk_frozen BK228.out 2; have hfz17_3 := blk_frozen BK228.out 3; have hfz17_4 := blk_frozen BK228.out 4; have hfz17_5 := blk_frozen BK228.out 5; have hcz18_0 : w16.cell? ⟨gb227, 0, none⟩ = some (.bool false) := (blk_cell BK227.out 0).trans rfl; have hcz18_1 : w16.cell? ⟨gb227, 1, none⟩ = some (.slice none 0 0) := (blk_cell BK227.out 1).trans rfl; have hcz18_2 : w16.cell? ⟨gb227, 2, none⟩ = some (.int .i64 0) := (blk_cell BK227.out 2).trans rfl; have hcz18_3 : w16.cell? ⟨gb227, 3, none⟩ = some (.int .i64 0) := (blk_cell BK227.out 3).trans rfl; have hcz18_4 : w16.cell? ⟨gb227, 4, none⟩ = some (.int .i64 0) := (blk_cell BK227.out 4).trans rfl; have hcz18_5 : w16.cell? ⟨gb227, 5, none⟩ = some (.int .i64 0) := (blk_cell BK227.out 5).trans rfl; have hfz18_0 := blk_frozen BK227.out 0; have hfz18_1 := blk_frozen BK227.out 1; have hfz18_2 := blk_frozen BK227.out 2; have hfz18_3 := blk_frozen BK227.out 3; have hfz18_4 := blk_frozen BK227.out 4; have hfz18_5 := blk_frozen BK227.out 5))
 refine bodyPost_ret (results_cell_row rfl _ _ gb227 132 #[.bool a0_0, .slice Ao13 t229.length co13, .int .i64 t232, .int .i64 t233, .int .i64 t234, .int .i64 t235] (0, 0) _ rfl (by refine sqt ?_; refine blk_put (cs := #[.bool a0_0, .slice Ao13 t229.length co13, .int .i64 t232, .int .i64 t233, .int .i64 t234, .int .i64 0]) ?_ 5 _ rfl; refine sqt ?_; refine blk_put (cs := #[.bool a0_0, .slice Ao13 t229.length co13, .int .i64 t232, .int .i64 t233, .int .i64 0, .int .i64 0]) ?_ 4 _ rfl; refine sqt ?_; refine blk_put (cs := #[.bool a0_0, .slice Ao13 t229.length co13, .int .i64 t232, .int .i64 0, .int .i64 0, .int .i64 0]) ?_ 3 _ rfl; refine sqt ?_; refine blk_put (cs := #[.bool a0_0, .slice Ao13 t229.length co13, .int .i64 0, .int .i64 0, .int .i64 0, .int .i64 0]) ?_ 2 _ rfl; refine sqt ?_; refine blk_put (cs := #[.bool a0_0, .slice none 0 0, .int .i64 0, .int .i64 0, .int .i64 0, .int .i64 0]) ?_ 1 _ rfl; refine sqt ?_; refine blk_put (cs := #[.bool false, .slice none 0 0, .int .i64 0, .int .i64 0, .int .i64 0, .int .i64 0]) ?_ 0 _ rfl; refine sqt ?_; refine blk_far ?_ NB227_228.out _; refine sqt ?_; refine blk_far ?_ NB227_228.out _; refine sqt ?_; refine blk_far ?_ NB227_228.out _; refine sqt ?_; refine blk_far ?_ NB227_228.out _; refine sqt ?_; exact BK227.out) Try.underlying132 rfl (by kernel_rfl)) rfl ?_
 exact ⟨_, by first | rfl | (simp [errW_none, errW_some] <;> rfl) | (simp [*, errW_none, errW_some] <;> rfl), by (with_reducible repeat (first | apply Kd.R_alloc | apply Kd.R_drewN | apply Kd.R_drew)); exact Kd.R_mono (Kd.R_far (p := ⟨gb227, 5, none⟩) (Kd.R_far (p := ⟨gb227, 4, none⟩) (Kd.R_far (p := ⟨gb227, 3, none⟩) (Kd.R_far (p := ⟨gb227, 2, none⟩) (Kd.R_far (p := ⟨gb227, 1, none⟩) (Kd.R_far (p := ⟨gb227, 0, none⟩) (Kd.R_far (p := ⟨gb228, 5, none⟩) (Kd.R_far (p := ⟨gb228, 4, none⟩) (Kd.R_far (p := ⟨gb228, 3, none⟩) (Kd.R_far (p := ⟨gb228, 2, none⟩) (Kd.R_types (Kd.R_types HO231.out BK228.out (by decide)) BK227.out (by decide)) (fun _ hk => hk.1.2) (.int .i64 t232)) (fun _ hk => hk.1.2) (.int .i64 t233)) (fun _ hk => hk.1.2) (.int .i64 t234)) (fun _ hk => hk.1.2) (.int .i64 t235)) (fun _ hk => hk.2) (.bool a0_0)) (fun _ hk => hk.2) (.slice Ao13 t229.length co13)) (fun _ hk => hk.2) (.int .i64 t232)) (fun _ hk => hk.2) (.int .i64 t233)) (fun _ hk => hk.2) (.int .i64 t234)) (fun _ hk => hk.2) (.int .i64 t235)) (fun _ hk => trivial), by repeat (first | (with_reducible first | exact HB.out | apply below_alloc | apply pw_below_drewN | apply below_drew1 | refine below_set ?_ GE226.out | refine below_set ?_ GE227.out | refine below_set ?_ GE228.out) | exact HB.out)⟩

/-! ### laws_toRefValS: function 142 -/
theorem laws_toRefValS.mono_l : ∀ k, (∀ y0 y1 y2, LeO (laws_toRefValS.l0 k y0 y1 y2) (laws_toRefValS.l0 (k + 1) y0 y1 y2))
 | 0 => fun _ _ _ r h => by simp [laws_toRefValS.l0] at h
 | k + 1 => by
  have ih0 := laws_toRefValS.mono_l k
  ·intro y0 y1 y2
   unfold laws_toRefValS.l0
   repeat' first
   | (with_reducible exact ih0 _ _ _)
   | (with_reducible exact laws_toRefVal.mono _ _ _ _ _ _ _)
   | (with_reducible exact LeO.refl _)
   | (with_reducible exact LeO.none _)
   | (with_reducible refine LeO.ite ?_ ?_)
   | (with_reducible refine LeO.bind ?_ (fun _ => ?_))
   | exact ih0 _ _ _
   | exact laws_toRefVal.mono _ _ _ _ _ _ _
   | exact LeO.none _
   | refine LeO.ite ?_ ?_
   | refine LeO.bind ?_ (fun _ => ?_)
theorem laws_toRefValS.mono : ∀ a0 k, LeO (laws_toRefValS.f k a0) (laws_toRefValS.f (k + 1) a0) := by
 intro a0 k
 have ih0 := laws_toRefValS.mono_l k
 unfold laws_toRefValS.f
 repeat' first
   | (with_reducible exact ih0 _ _ _)
   | (with_reducible exact laws_toRefVal.mono _ _ _ _ _ _ _)
   | (with_reducible exact LeO.refl _)
   | (with_reducible exact LeO.none _)
   | (with_reducible refine LeO.ite ?_ ?_)
   | (with_reducible refine LeO.bind ?_ (fun _ => ?_))
   | exact ih0 _ _ _
   | exact laws_toRefVal.mono _ _ _ _ _ _ _
   | exact LeO.none _
   | refine LeO.ite ?_ ?_
   | refine LeO.bind ?_ (fun _ => ?_)
set_option maxHeartbeats 8000000 in
set_option maxRecDepth 100000 in
theorem laws_toRefValS.calls (k : Nat) (A0 : Option Addr) (c0 : Nat) (l0 : List (S167)) (r : List (S132)) (w : World) (hr0 : Kd.C k167 w A0 l0.length l0) (hc0 : l0.length ≤ c0) (h : laws_toRefValS.f k l0 = some r) :
  Calls Try.prog 142 #[.slice A0 l0.length c0] w fun e w' => ∃ v0_ : Value, e = .returned (v0_) ∧ Kd.S k132 132 w' w.heap.size (fun _ => True) v0_ r ∧ Below w.heap.size w w' := by
 have hu167 := Try.underlying167
 have hu132 := Try.underlying132
 have HR0 := Aside0.mk hr0
 have HC0 := Aside0.mk hc0
 clear hr0 hc0
 have HB := Aside0.mk (Below.refl w.heap.size w)
 have H : (if 0 ≤ (l0.length : Int) then (if ((l0.length : Int) : Int).toNat ≤ 4398046511104 then (laws_toRefValS.l0 k l0 (List.replicate ((l0.length : Int) : Int).toNat z132) 0) else (none)) else (none)) = some r := h
 clear h
 by_cases c2 : 0 ≤ (l0.length : Int)
 ·rw [if_pos c2] at H
  have c2b0 := eq_true c2
  have c2b1 : decide (0 ≤ (l0.length : Int)) = true := decide_eq_true c2
  clear c2
  by_cases c3 : ((l0.length : Int) : Int).toNat ≤ 4398046511104
  ·rw [if_pos c3] at H
   have c3b0 := eq_true c3
   have c3b1 : decide (((l0.length : Int) : Int).toNat ≤ 4398046511104) = true := decide_eq_true c3
   clear c3
   obtain ⟨y236, hy236⟩ : ∃ y_ : List (S132), y_ = (List.replicate ((l0.length : Int) : Int).toNat z132) := ⟨_, rfl⟩
   replace H : (laws_toRefValS.l0 k l0 y236 0) = some r := by first | (rw [hy236]; with_reducible exact H) | (have H2_ := (Option.bind_some _ _).symm.trans H; rw [hy236]; with_reducible exact H2_) | (have H2_ := (Option.bind_some _ _).symm.trans H; with_reducible exact H2_) | with_reducible exact H | (rw [hy236]; exact H) | exact H
   have Ny236 := Aside0.mk hy236
   clear hy236
   have H' := Aside0.mk H
   clear H
   go_enter Try.func142, Try.ntmps142
   go_wp2_with (first | ((with_reducible refine gate_dst (N := 7) rfl ?_); refine Kd.S_make k132 _ 132 rfl (N := 7) rfl 76 _ _ rfl (l0.length : Int) rfl rfl Try.underlying76 (.agg #[(.bool false), (.slice none 0 0), (.int .i64 0), (.int .i64 0), (.int .i64 0), (.int .i64 0)]) 64 info132 rfl (by decide) (by omega) z132 (ok := fun _ => True) (okp := fun _ => True) (k132_mkM _ _ _ z132 (Kd.R_nil _ _ _ _ _)) (fun _ hk => hk) trivial (of_decide_eq_true (by first | (with_reducible assumption) | assumption)) (Nat.le_trans (Nat.mul_le_mul_right _ (of_decide_eq_true (by first | (with_reducible assumption) | assumption) : (l0.length : Int).toNat ≤ 4398046511104)) (by omega)) (Below.refl _ _) (Nat.le_refl _) ?_; intro v237 w4 ho5 hb hg_ hnew_; clear hg_ hnew_; (first | rw [← Ny236.out] at ho5 | (simp only [Int.reduceToNat] at ho5; rw [← Ny236.out] at ho5)); have HO238 := Aside0.mk (Kd.S_lower ho5 (below_size (by repeat (first | (with_reducible first | exact HB.out | apply below_alloc | apply pw_below_drewN | apply below_drew1) | exact HB.out)))); replace HB := sqs HB hb; clear hb ho5))
   go_loopg [4] k (fun kq v4 w' => ∃ (x3_1 : List (S132)) (x4_1 : Int), v4 = .int .i64 x4_1 ∧ Aside0 (laws_toRefValS.l0 kq l0 x3_1 x4_1 = some r) ∧ Aside0 (kq ≤ k) ∧ Aside0 (Kd.S k132 132 w' w.heap.size (fun _ => True) v237 x3_1) ∧ Aside0 (Below w.heap.size w w'))
   case atStart => exact ⟨(y236), (0), (by first | rfl | (simp; done) | (simp [*]; done)), H', ⟨Nat.le_refl _⟩, ⟨by (with_reducible repeat (first | apply Kd.S_alloc | apply Kd.S_drewN | apply Kd.S_drew)); exact HO238.out⟩, sqh HB⟩
   case round =>
    clear H'
    try clear c1
    try clear c2
    try clear c2b0
    try clear c2b1
    try clear p2
    try clear c3
    try clear c3b0
    try clear c3b1
    obtain ⟨x3_1, x4_1, rfl, HA, HK1, HO_3, HB⟩ := hrel
    cases gk with
    | zero => exact absurd HA.out (by simp [laws_toRefValS.l0])
    | succ k1 =>
     have H := HA.out
     clear HA
     simp only [laws_toRefValS.l0] at H
     by_cases c6 : x4_1 < (l0.length : Int)
     ·rw [if_pos c6] at H
      have c6b0 : decide (x4_1 < (l0.length : Int)) = true := decide_eq_true c6
      clear c6
      by_cases c7 : 0 ≤ x4_1
      ·rw [if_pos c7] at H
       have c7b0 : decide (0 ≤ x4_1) = true := decide_eq_true c7
       clear c7
       replace H := Option.bind_eq_some_iff.mp H
       obtain ⟨⟨t240, t241, t244, t245, t246, t247⟩, A80, H⟩ := H
       replace H : (if x4_1 < (x3_1.length : Int) then (laws_toRefValS.l0 k1 l0 (x3_1.set (x4_1 : Int).toNat (⟨t240, t241, (⟨t244, t245, t246, t247⟩ : S30)⟩ : S132)) (wrap64 (x4_1 + 1))) else (none)) = some r := H
       have A8 := Aside0.mk A80
       clear A80
       by_cases c9 : x4_1 < (x3_1.length : Int)
       ·rw [if_pos c9] at H
        have c9b0 : decide (x4_1 < (x3_1.length : Int)) = true := decide_eq_true c9
        clear c9
        obtain ⟨y248, hy248⟩ : ∃ y_ : List (S132), y_ = (x3_1.set (x4_1 : Int).toNat (⟨t240, t241, (⟨t244, t245, t246, t247⟩ : S30)⟩ : S132)) := ⟨_, rfl⟩
        replace H : (laws_toRefValS.l0 k1 l0 y248 (wrap64 (x4_1 + 1))) = some r := by first | (rw [hy248]; with_reducible exact H) | (have H2_ := (Option.bind_some _ _).symm.trans H; rw [hy248]; with_reducible exact H2_) | (have H2_ := (Option.bind_some _ _).symm.trans H; with_reducible exact H2_) | with_reducible exact H | (rw [hy248]; exact H) | exact H
        have Ny248 := Aside0.mk hy248
        clear hy248
        have H' := Aside0.mk H
        clear H
        have p239 : 0 ≤ (x4_1 : Int) := of_decide_eq_true (by first | (with_reducible assumption) | assumption)
        have q239 : x4_1 < (l0.length : Int) := of_decide_eq_true (by first | (with_reducible assumption) | assumption)
        obtain ⟨ad239, A239_1, c239_1, e239, hx239_0, hx239_1, hx239_2, hx239_3, hx239_4, hx239_5, hl239_1, hi239_1⟩ := at_T167 HR0.out x4_1 p239 q239
        cases e239
        replace hx239_0 := (HB.out.cell (World.block_lt_of_cell? w _ hx239_0)).trans hx239_0
        replace hx239_1 := (HB.out.cell (World.block_lt_of_cell? w _ hx239_1)).trans hx239_1
        replace hx239_2 := (HB.out.cell (World.block_lt_of_cell? w _ hx239_2)).trans hx239_2
        replace hx239_3 := (HB.out.cell (World.block_lt_of_cell? w _ hx239_3)).trans hx239_3
        replace hx239_4 := (HB.out.cell (World.block_lt_of_cell? w _ hx239_4)).trans hx239_4
        replace hx239_5 := (HB.out.cell (World.block_lt_of_cell? w _ hx239_5)).trans hx239_5
        have HR239_1 := Aside0.mk hi239_1
        have HC239_1 := Aside0.mk hl239_1
        clear hi239_1 hl239_1
        replace p239 := eq_true p239
        replace q239 := eq_true q239
        go_wp2_with (first | ((with_reducible refine gate_callee (f := 201) rfl ?_); refine sqL (some 20) Try.func201 #[.agg #[.bool ((rd_T167 l0 x4_1).f0), .slice A239_1 ((rd_T167 l0 x4_1).f1).length c239_1, .int .i64 ((rd_T167 l0 x4_1).f2.f0), .int .i64 ((rd_T167 l0 x4_1).f2.f1), .int .i64 ((rd_T167 l0 x4_1).f2.f2), .int .i64 ((rd_T167 l0 x4_1).f2.f3)]] ?_; (with_reducible refine (laws_toRefVal.calls k1 ((rd_T167 l0 x4_1).f0) _ _ ((rd_T167 l0 x4_1).f1) ((rd_T167 l0 x4_1).f2.f0) ((rd_T167 l0 x4_1).f2.f1) ((rd_T167 l0 x4_1).f2.f2) ((rd_T167 l0 x4_1).f2.f3) t240 t241 t244 t245 t246 t247 _ ?side1 ?side2 A8.out).mono ?_); (case side1 => repeat (first | exact (Kd.C_below HR239_1.out HB.out) | (with_reducible refine Kd.C_alloc ?_ _) | (with_reducible refine Kd.C_drewN ?_ _) | (with_reducible refine Kd.C_drew ?_))); (case side2 => exact HC239_1.out); rintro e w11 ⟨v242, rfl, ho0, hb⟩; refine ⟨_, rfl, ?_⟩; have n0_ := Aside0.mk (Kd.S_elder' (by (with_reducible repeat (first | apply Kd.S_alloc | apply Kd.S_drewN | apply Kd.S_drew)); exact HO_3.out) (Kd.R_base ho0) hb); have n1_ := Aside0.mk (Kd.R_lower ho0 (below_size (by repeat (first | (with_reducible first | exact HB.out | apply below_alloc | apply pw_below_drewN | apply below_drew1) | exact HB.out)))); have n2_ := sqs HB hb; clear HO_3; clear HB; have HO_3 := n0_; have HO243 := n1_; have HB := n2_; clear n0_ n1_ n2_; (try clear hb); (try clear hb2); (try clear hk); (try clear hi); (try clear ho0); have p10 : 0 ≤ (x4_1 : Int) := of_decide_eq_true (by first | (with_reducible assumption) | assumption); have q10 : (x4_1 : Int) < ((x3_1.length : Int) : Int) := of_decide_eq_true (by first | (with_reducible assumption) | assumption); obtain ⟨go10, co10, eo10, gb10, gl10, cl10, HG10⟩ := Kd.S_form HO_3.out (by omega); (first | cases eo10 | (injection eo10 with ea_ en_ ec_; (first | subst ea_ | (injection ea_ with ea_; subst ea_)); subst ec_; clear en_)); have GB10 := Aside0.mk gb10; have GG10 := Aside0.mk HG10; clear gb10 gl10 HG10; obtain ⟨_, ce10, hcl10, hM10, hcc10, hfr10, _, _⟩ := Kd.S_elem HO_3.out z132 (x4_1 : Int) p10 q10; obtain ⟨ve10_1, rfl, ge10_1⟩ := k132_openM hM10; have hx10_0 : w11.cell? ⟨go10, (x4_1 : Int).toNat * 6, none⟩ = some (.bool ((rd_T132 x3_1 x4_1).f0)) := hcc10 0 _ rfl; have hx10_1 : w11.cell? ⟨go10, (x4_1 : Int).toNat * 6 + 1, none⟩ = some (ve10_1) := hcc10 1 _ rfl; have hx10_2 : w11.cell? ⟨go10, (x4_1 : Int).toNat * 6 + 2, none⟩ = some (.int .i64 ((rd_T132 x3_1 x4_1).f2.f0)) := hcc10 2 _ rfl; have hx10_3 : w11.cell? ⟨go10, (x4_1 : Int).toNat * 6 + 3, none⟩ = some (.int .i64 ((rd_T132 x3_1 x4_1).f2.f1)) := hcc10 3 _ rfl; have hx10_4 : w11.cell? ⟨go10, (x4_1 : Int).toNat * 6 + 4, none⟩ = some (.int .i64 ((rd_T132 x3_1 x4_1).f2.f2)) := hcc10 4 _ rfl; have hx10_5 : w11.cell? ⟨go10, (x4_1 : Int).toNat * 6 + 5, none⟩ = some (.int .i64 ((rd_T132 x3_1 x4_1).f2.f3)) := hcc10 5 _ rfl; have hf10_0 : w11.frozen? ⟨go10, (x4_1 : Int).toNat * 6, none⟩ = false := hfr10 0; have hf10_1 : w11.frozen? ⟨go10, (x4_1 : Int).toNat * 6 + 1, none⟩ = false := hfr10 1; have hf10_2 : w11.frozen? ⟨go10, (x4_1 : Int).toNat * 6 + 2, none⟩ = false := hfr10 2; have hf10_3 : w11.frozen? ⟨go10, (x4_1 : Int).toNat * 6 + 3, none⟩ = false := hfr10 3; have hf10_4 : w11.frozen? ⟨go10, (x4_1 : Int).toNat * 6 + 4, none⟩ = false := hfr10 4; have hf10_5 : w11.frozen? ⟨go10, (x4_1 : Int).toNat * 6 + 5, none⟩ = false := hfr10 5; clear hcl10 hcc10 hfr10 hM10; replace p10 := eq_true p10; replace q10 := eq_true q10; obtain ⟨Ao12, co12, eo12⟩ := Kd.R_slice HO243.out; subst eo12; have n_ := Aside0.mk (Kd.S_mono (ok' := (fun k_ => some k_ ≠ (.slice Ao12 t241.length co12 : Value).ownBlock)) HO_3.out (fun k_ hk => hk.2)); clear HO_3; have HO_3 := n_; clear n_; have HX13 := Aside0.mk (show Kd.S k132 132 w11 w.heap.size (fun k_ => ((fun _ => True)) k_ ∧ ¬ ((fun k_ => some k_ = (.slice Ao12 t241.length co12 : Value).ownBlock)) k_) (.slice (some ⟨go10, 0, none⟩) x3_1.length co10) x3_1 from (by (with_reducible repeat (first | apply Kd.S_alloc | apply Kd.S_drewN | apply Kd.S_drew)); exact Kd.S_mono HO_3.out (fun k_ hk => ⟨trivial, fun e_ => hk e_⟩))); obtain ⟨oki13, ce13, hcl13, hM13, hcc13, hfr13, hoki13, hH13⟩ := Kd.S_elem HX13.out z132 (x4_1 : Int) (of_decide_eq_true (by first | (with_reducible assumption) | assumption)) (by have h_ : (x4_1 : Int) < ((x3_1.length : Int) : Int) := of_decide_eq_true (by first | (with_reducible assumption) | assumption); first | exact h_ | (have e_ := (Kd.S_reads' HO_3.out).1; omega) | simpa using h_); obtain ⟨ve13_1, rfl, ge13_1⟩ := k132_openM hM13; have HP13 := Kd.S_seg hH13 (of_decide_eq_true (by first | (with_reducible assumption) | assumption)) (by have h_ : (x4_1 : Int) < ((x3_1.length : Int) : Int) := of_decide_eq_true (by first | (with_reducible assumption) | assumption); first | exact h_ | (have e_ := (Kd.S_reads' HO_3.out).1; omega) | simpa using h_) (seg := [.bool t240, .slice Ao12 t241.length co12, .int .i64 t244, .int .i64 t245, .int .i64 t246, .int .i64 t247]) (j := 0) (show 6 ≤ 6 from by decide) (x' := (⟨t240, t241, (⟨t244, t245, t246, t247⟩ : S30)⟩ : S132)) (k132_mkM _ _ _ (⟨t240, t241, (⟨t244, t245, t246, t247⟩ : S30)⟩ : S132) (Kd.R_mono (Kd.R_tight rfl (Kd.R_mono (ok' := fun k_ => ((fun _ => True)) k_ ∧ k_ ≠ go10) (Kd.R_apart' (HO243.out) (Kd.S_typed HO_3.out) (by decide)) (fun k_ hk => ⟨trivial, fun e_ => (hk.2) (by rw [e_]; rfl)⟩))) (fun _ h_ => Or.inr (h_)))) (fun _ hk => hk) (fun k_ hk_ => ((Kd.R_mono (ok' := fun k_ => ((fun _ => True)) k_ ∧ k_ ≠ go10) (Kd.R_apart' (HO243.out) (Kd.S_typed HO_3.out) (by decide)) (fun k_ hk => ⟨trivial, fun e_ => (hk.2) (by rw [e_]; rfl)⟩))).1 k_ hk_.symm); have hx13_0 := hcc13 0 _ rfl; (try simp only [show (k132).sz = 6 from rfl, Nat.mul_one, Nat.add_zero] at hx13_0); have hf13_0 := hfr13 0; (try simp only [show (k132).sz = 6 from rfl, Nat.mul_one, Nat.add_zero] at hf13_0); have hx13_1 := hcc13 1 _ rfl; (try simp only [show (k132).sz = 6 from rfl, Nat.mul_one, Nat.add_zero] at hx13_1); have hf13_1 := hfr13 1; (try simp only [show (k132).sz = 6 from rfl, Nat.mul_one, Nat.add_zero] at hf13_1); have hx13_2 := hcc13 2 _ rfl; (try simp only [show (k132).sz = 6 from rfl, Nat.mul_one, Nat.add_zero] at hx13_2); have hf13_2 := hfr13 2; (try simp only [show (k132).sz = 6 from rfl, Nat.mul_one, Nat.add_zero] at hf13_2); have hx13_3 := hcc13 3 _ rfl; (try simp only [show (k132).sz = 6 from rfl, Nat.mul_one, Nat.add_zero] at hx13_3); have hf13_3 := hfr13 3; (try simp only [show (k132).sz = 6 from rfl, Nat.mul_one, Nat.add_zero] at hf13_3); have hx13_4 := hcc13 4 _ rfl; (try simp only [show (k132).sz = 6 from rfl, Nat.mul_one, Nat.add_zero] at hx13_4); have hf13_4 := hfr13 4; (try simp only [show (k132).sz = 6 from rfl, Nat.mul_one, Nat.add_zero] at hf13_4); have hx13_5 := hcc13 5 _ rfl; (try simp only [show (k132).sz = 6 from rfl, Nat.mul_one, Nat.add_zero] at hx13_5); have hf13_5 := hfr13 5; (try simp only [show (k132).sz = 6 from rfl, Nat.mul_one, Nat.add_zero] at hf13_5); clear hcl13 hcc13 hfr13 hM13 hoki13 hH13) | ((with_reducible refine gate_store (t := 132) (p := 21) rfl ?_); refine store_event (t := 132) (p := 21) (v := ?vo_w14) (w1 := ((((((w11.setCell ⟨go10, (x4_1 : Int).toNat * 6, none⟩ (.bool t240)).setCell ⟨go10, (x4_1 : Int).toNat * 6 + 1, none⟩ (.slice Ao12 t241.length co12)).setCell ⟨go10, (x4_1 : Int).toNat * 6 + 2, none⟩ (.int .i64 t244)).setCell ⟨go10, (x4_1 : Int).toNat * 6 + 3, none⟩ (.int .i64 t245)).setCell ⟨go10, (x4_1 : Int).toNat * 6 + 4, none⟩ (.int .i64 t246)).setCell ⟨go10, (x4_1 : Int).toNat * 6 + 5, none⟩ (.int .i64 t247))) ?hg ?ho ?hn ?hr ?_; (case ho => rfl); (case hg => rfl); (case hn => rfl); (case hr => first | (go_simp; done) | (go_simp; rfl)); intro w14 hw; have hg : w11.grownBy w14 (some go10) := (by rw [hw]; exact HP13.2); have hp_ : Kd.S k132 132 w14 w.heap.size (fun _ => True) (.slice (some ⟨go10, 0, none⟩) x3_1.length co10) y248 := (by rw [hw, Ny248.out]; exact HP13.1); clear HP13; have n0_ := Aside0.mk (hp_); have n1_ := Aside0.mk ((by rw [hw]; exact below_set (below_set (below_set (below_set (below_set (below_set (HB.out) GB10.out) GB10.out) GB10.out) GB10.out) GB10.out) GB10.out : Below w.heap.size w w14)); clear HO_3; clear HB; clear HO243; have HO_3 := n0_; have HB := n1_; clear n0_ n1_; clear hg hw hp_))
        go_roundg k1
        case measure => have := HK1.out; omega
        case rel => exact ⟨(y248), (wrap64 (x4_1 + 1)), (by first | rfl | (simp; done) | (simp [*]; done)), H', ⟨by have := HK1.out; omega⟩, ⟨by (with_reducible repeat (first | apply Kd.S_alloc | apply Kd.S_drewN | apply Kd.S_drew)); exact HO_3.out⟩, sqh HB⟩
       ·rw [if_neg c9] at H
        exact absurd H (by simp)
      ·rw [if_neg c7] at H
       exact absurd H (by simp)
     ·rw [if_neg c6] at H
      have c6b0 : decide (x4_1 < (l0.length : Int)) = false := decide_eq_false c6
      clear c6
      obtain rfl := Option.some.inj H
      go_wp2
      go_ret
      exact ⟨_, by first | rfl | (simp [errW_none, errW_some] <;> rfl) | (simp [*, errW_none, errW_some] <;> rfl), by (with_reducible repeat (first | apply Kd.S_alloc | apply Kd.S_drewN | apply Kd.S_drew)); exact HO_3.out, by repeat (first | (with_reducible first | exact HB.out | apply below_alloc | apply pw_below_drewN | apply below_drew1) | exact HB.out)⟩
  ·rw [if_neg c3] at H
   exact absurd H (by simp)
 ·rw [if_neg c2] at H
  exact absurd H (by simp)

/-! ### laws_toGaps: function 143 -/
theorem laws_toGaps.mono : ∀ a0 a1 k, LeO (laws_toGaps.f k a0 a1) (laws_toGaps.f (k + 1) a0 a1) := by
 intro a0 a1 k
 unfold laws_toGaps.f
 repeat' first
   | (with_reducible exact laws_toIntS.mono _ _)
   | (with_reducible exact LeO.refl _)
   | (with_reducible exact LeO.none _)
   | (with_reducible refine LeO.ite ?_ ?_)
   | (with_reducible refine LeO.bind ?_ (fun _ => ?_))
   | exact laws_toIntS.mono _ _
   | exact LeO.none _
   | refine LeO.ite ?_ ?_
   | refine LeO.bind ?_ (fun _ => ?_)
set_option maxHeartbeats 8000000 in
set_option maxRecDepth 100000 in
theorem laws_toGaps.calls (k : Nat) (a0_0 : Int) (A0_1 : Option Addr) (c0_1 : Nat) (l0_1 : List Int) (r1 : Int) (r2 : List Int) (w : World) (hr0_1 : Kd.C (Kd.int .i64) w A0_1 l0_1.length l0_1) (hc0_1 : l0_1.length ≤ c0_1) (h : laws_toGaps.f k a0_0 l0_1 = some (r1, r2)) :
  Calls Try.prog 143 #[.agg #[.int .i64 a0_0, .slice A0_1 l0_1.length c0_1]] w fun e w' => ∃ v1_ : Value, e = .returned (.agg #[.int .i64 r1, v1_]) ∧ Kd.R (Kd.int .i64) 3 w' w.heap.size (fun _ => True) v1_ r2 ∧ Below w.heap.size w w' := by
 have hu70 := Try.underlying70
 have hu41 := Try.underlying41
 have HR0_1 := Aside0.mk hr0_1
 have HC0_1 := Aside0.mk hc0_1
 clear hr0_1 hc0_1
 have HB := Aside0.mk (Below.refl w.heap.size w)
 have H : ((laws_toIntS.f k l0_1).bind fun t252 => (some (a0_0, t252))) = some (r1, r2) := h
 clear h
 replace H := Option.bind_eq_some_iff.mp H
 obtain ⟨t252, A20, H⟩ := H
 replace H : (some (a0_0, t252)) = some (r1, r2) := H
 have A2 := Aside0.mk A20
 clear A20
 simp only [Option.some.injEq, Prod.mk.injEq] at H
 obtain ⟨rfl, rfl⟩ := H
 go_enter Try.func143, Try.ntmps143
 go_wp2_with (first | ((with_reducible refine gate_dst (N := 1) rfl ?_); refine sqx 1 #[.int .i64 a0_0, .slice A0_1 l0_1.length c0_1] 70 ?_; intro gb249 hg w3 hbox hb; have BK249 := Aside0.mk (hbox); have GW249 := sqg HB hg; have GE249 := sqg HB hg; replace HB := sqs HB hb; clear hb hbox hg) | ((with_reducible refine gate_dst (N := 2) rfl ?_); refine sqx 2 #[.int .i64 0, .slice none 0 0] 41 ?_; intro gb250 hg w4 hbox hb; have BK250 := Aside0.mk (hbox); have GW250 := sqg HB hg; have GE250 := sqg HB hg; have NB249_250 := sqn BK249 hg; have NB250_249 := sqm BK249 hg; replace BK249 := sqb BK249 hb; replace HB := sqs HB hb; clear hb hbox hg) | ((with_reducible refine gate_dst (N := 3) rfl ?_); refine sqx 3 #[.int .i64 0, .slice none 0 0] 41 ?_; intro gb251 hg w5 hbox hb; have BK251 := Aside0.mk (hbox); have GW251 := sqg HB hg; have GE251 := sqg HB hg; have NB249_251 := sqn BK249 hg; have NB251_249 := sqm BK249 hg; have NB250_251 := sqn BK250 hg; have NB251_250 := sqm BK250 hg; replace BK249 := sqb BK249 hb; replace BK250 := sqb BK250 hb; replace HB := sqs HB hb; clear hb hbox hg; have hnb6 := NB249_250.out; have hnc6 := NB250_249.out; have hnb7 := NB249_251.out; have hnc7 := NB251_249.out; obtain ⟨hcz8_0, hcz8_1, hfz8_0, hfz8_1⟩ := sqc2 BK249; have hnb9 := NB251_250.out; have hnc9 := NB250_251.out; obtain ⟨hcz10_0, hcz10_1, hfz10_0, hfz10_1⟩ := sqc2 BK251) | ((with_reducible refine gate_callee (f := 202) rfl ?_); refine sqL (some 9) Try.func202 #[.slice A0_1 l0_1.length c0_1] ?_; (with_reducible refine (laws_toIntS.calls k _ _ l0_1 t252 _ ?side1 ?side2 A2.out).mono ?_); (case side1 => exact Kd.C_below HR0_1.out (by repeat (first | (with_reducible first | exact HB.out | apply below_alloc | apply pw_below_drewN | apply below_drew1 | refine below_set ?_ GE249.out | refine below_set ?_ GE250.out | refine below_set ?_ GE251.out) | exact HB.out))); (case side2 => exact HC0_1.out); rintro e w11 ⟨v253, rfl, ho0, hb⟩; refine ⟨_, rfl, ?_⟩; have n0_ := Aside0.mk (Kd.R_lower ho0 (below_size (by repeat (first | (with_reducible first | exact HB.out | apply below_alloc | apply pw_below_drewN | apply below_drew1 | refine below_set ?_ GE249.out | refine below_set ?_ GE250.out | refine below_set ?_ GE251.out) | exact HB.out)))); have n1_ := Aside0.mk (blk_below (g := gb249) (o := .cells #[.int .i64 a0_0, .slice A0_1 l0_1.length c0_1] 70 (0, 0)) (by refine sqt ?_; refine blk_far ?_ NB249_251.out _; refine sqt ?_; exact BK249.out) hb); have n2_ := Aside0.mk (blk_below (g := gb250) (o := .cells #[.int .i64 0, .slice none 0 0] 41 (0, 0)) (by refine sqt ?_; refine blk_far ?_ NB250_251.out _; refine sqt ?_; exact BK250.out) hb); have n3_ := Aside0.mk (blk_below (g := gb251) (o := .cells #[.int .i64 a0_0, .slice none 0 0] 41 (0, 0)) (by refine sqt ?_; refine blk_put (cs := #[.int .i64 0, .slice none 0 0]) ?_ 0 _ rfl; refine sqt ?_; exact BK251.out) hb); have n4_ := sqs HB hb; clear BK249; clear BK250; clear BK251; clear HB; have HO254 := n0_; have BK249 := n1_; have BK250 := n2_; have BK251 := n3_; have HB := n4_; clear n0_ n1_ n2_ n3_ n4_; (try clear hb); (try clear hb2); (try clear hk); (try clear hi); (try clear ho0); obtain ⟨Ao12, co12, eo12⟩ := Kd.R_slice HO254.out; subst eo12; obtain ⟨hcz13_0, hcz13_1, hfz13_0, hfz13_1⟩ := sqc2 BK251; obtain ⟨hcz14_0, hcz14_1, hfz14_0, hfz14_1⟩ := sqc2 BK250))
 refine bodyPost_ret (results_cell_row rfl _ _ gb250 41 #[.int .i64 a0_0, .slice Ao12 t252.length co12] (0, 0) _ rfl (by refine sqt ?_; refine blk_put (cs := #[.int .i64 a0_0, .slice none 0 0]) ?_ 1 _ rfl; refine sqt ?_; refine blk_put (cs := #[.int .i64 0, .slice none 0 0]) ?_ 0 _ rfl; refine sqt ?_; refine blk_far ?_ NB250_251.out _; refine sqt ?_; exact BK250.out) Try.underlying41 rfl (by kernel_rfl)) rfl ?_
 exact ⟨_, by first | rfl | (simp [errW_none, errW_some] <;> rfl) | (simp [*, errW_none, errW_some] <;> rfl), by (with_reducible repeat (first | apply Kd.R_alloc | apply Kd.R_drewN | apply Kd.R_drew)); exact Kd.R_mono (Kd.R_far (p := ⟨gb250, 1, none⟩) (Kd.R_far (p := ⟨gb250, 0, none⟩) (Kd.R_far (p := ⟨gb251, 1, none⟩) (Kd.R_types (Kd.R_types HO254.out BK251.out (by decide)) BK250.out (by decide)) (fun _ hk => hk.1.2) (.slice Ao12 t252.length co12)) (fun _ hk => hk.2) (.int .i64 a0_0)) (fun _ hk => hk.2) (.slice Ao12 t252.length co12)) (fun _ hk => trivial), by repeat (first | (with_reducible first | exact HB.out | apply below_alloc | apply pw_below_drewN | apply below_drew1 | refine below_set ?_ GE249.out | refine below_set ?_ GE250.out | refine below_set ?_ GE251.out) | exact HB.out)⟩

end Go.Proofs.Ytkekcenlleebeaa.PFnExactAbsOk
