/- Functions of the program as plain Lean functions, and that calls of them come to what these tell. Conditions: those in each law. -/
import Derived.Test.YtkekcenlleebeaaSq
import Derived.Test.YtkekcenlleebeaaDFnValLattice
import Derived.Test.YtkekcenlleebeaaQFnValLatticex0
import Derived.Test.YtkekcenlleebeaaQFnValLatticex3
import Derived.Test.YtkekcenlleebeaaQFnValLatticex7
import Derived.Test.YtkekcenlleebeaaQFnValLatticex9
import Derived.Test.YtkekcenlleebeaaQFnValLatticex10
import Derived.Test.YtkekcenlleebeaaQFnValLatticex11
import Derived.Test.YtkekcenlleebeaaQFnValLatticex16
import Derived.Test.YtkekcenlleebeaaQFnValLatticex17
namespace Go.Proofs.Ytkekcenlleebeaa.PFnValLattice
open Go.RowKit Go.Proofs.Ytkekcenlleebeaa.Sq Go.Proofs.YtkekcenlleebeaaW.PrintWords Go.Proofs.YtkekcenlleebeaaW.PrintLast Go.Proofs.YtkekcenlleebeaaW.PrintMore
attribute [local go_sem] max2_int min2_int max_two min_two max_three min_three max_four min_four   -- for this text's walks alone
set_option linter.unusedVariables false
set_option linter.unusedSimpArgs false

attribute [local go_sem high] eqA30
/-! ### spec_l10Two: function 179 -/
def spec_l10Two.T3 : Bool × List (List Nat × List Nat) := (true, [([], []), ([0], [0]), ([1], [1]), ([2, 1], [2]), ([3], [3]), ([4, 3, 3], [3, 4]), ([3, 5], [3, 5]), ([6, 5], [6]), ([7], [7]), ([7, 7], [7]), ([8, 9, 7], [7, 8, 9]), ([7, 10], [7, 10])])
def spec_l10Two.B3 : List Nat := [0, 1, 3, 7, 15, 31, 63, 127, 255, 255, 1023, 2047]
theorem spec_l10Two.tab3 : rtab .any (opsOf Try.f179 3) = spec_l10Two.T3 := by kernel_rfl
theorem spec_l10Two.bits3 : waitsOk spec_l10Two.T3.2 spec_l10Two.B3 = true := by kernel_rfl
def spec_l10Two.T4 : Bool × List (List Nat × List Nat) := (true, [([], []), ([0], [0]), ([], []), ([2], [2]), ([1, 3], [1, 3]), ([4], [4]), ([], []), ([6], [6]), ([], []), ([8, 3], [8]), ([7, 9], [7, 9]), ([10], [10]), ([5, 11, 9], [5, 11]), ([], []), ([13, 12], [13]), ([12, 14, 14], [12, 14]), ([15, 15, 0, 1, 2, 3, 4, 5, 6, 7, 8, 9, 10, 11, 12, 13, 14, 15], [15])])
def spec_l10Two.B4 : List Nat := [0, 1, 0, 4, 15, 31, 0, 64, 0, 268, 972, 1996, 4095, 0, 16383, 32767, 65535]
theorem spec_l10Two.tab4 : rtab .any (opsOf Try.f179 4) = spec_l10Two.T4 := by kernel_rfl
theorem spec_l10Two.bits4 : waitsOk spec_l10Two.T4.2 spec_l10Two.B4 = true := by kernel_rfl
def spec_l10Two.T5 : Bool × List (List Nat × List Nat) := (true, [([], []), ([0], [0]), ([1], [1]), ([2, 1], [2]), ([3], [3]), ([4, 3, 3], [3, 4]), ([3, 5], [3, 5]), ([6, 5], [6]), ([7], [7]), ([7, 7], [7]), ([8, 9, 7], [7, 8, 9]), ([7, 10], [7, 10])])
def spec_l10Two.B5 : List Nat := [0, 1, 3, 7, 15, 31, 63, 127, 255, 255, 1023, 2047]
theorem spec_l10Two.tab5 : rtab .any (opsOf Try.f179 5) = spec_l10Two.T5 := by kernel_rfl
theorem spec_l10Two.bits5 : waitsOk spec_l10Two.T5.2 spec_l10Two.B5 = true := by kernel_rfl
def spec_l10Two.T6 : Bool × List (List Nat × List Nat) := (true, [([], []), ([0], [0]), ([], []), ([2], [2]), ([1, 3], [1, 3]), ([], []), ([5], [5]), ([], []), ([7, 3], [7]), ([6, 8], [6, 8]), ([4, 9, 8], [4, 9]), ([], []), ([11, 10], [11]), ([10, 12, 12], [10, 12]), ([13, 13, 0, 1, 2, 3, 4, 5, 6, 7, 8, 9, 10, 11, 12, 13], [13])])
def spec_l10Two.B6 : List Nat := [0, 1, 0, 4, 15, 0, 32, 0, 140, 492, 1023, 0, 4095, 8191, 16383]
theorem spec_l10Two.tab6 : rtab .any (opsOf Try.f179 6) = spec_l10Two.T6 := by kernel_rfl
theorem spec_l10Two.bits6 : waitsOk spec_l10Two.T6.2 spec_l10Two.B6 = true := by kernel_rfl
set_option maxHeartbeats 8000000 in
set_option maxRecDepth 100000 in
theorem spec_l10Two.calls (k : Nat) (g : Nat) (s0_0 : List Int) (s0_1 : Int) (r1 : Int) (r2 : Int) (r3 : Int) (r4 : Int) (r5 : Int) (r6 : Int) (r7 : Int) (r8 : Int) (r9 : Int) (w0 w : World) (hI : IsS161 w0 w g s0_0 s0_1) (hB : Below w0.heap.size w0 w) (h : spec_l10Two.f k s0_0 s0_1 = some (r1, r2, r3, r4, r5, r6, r7, r8, r9)) :
  Calls Try.prog 179 #[.pointer (some ⟨g, 0, none⟩)] w fun e w' => e = .returned (.tuple #[.agg #[.int .i64 r1, .int .i64 r2, .int .i64 r3, .int .i64 r4], .agg #[.int .i64 r5, .int .i64 r6, .int .i64 r7, .int .i64 r8]]) ∧ IsS161 w0 w' g s0_0 r9 ∧ Below w0.heap.size w0 w' ∧ KeepBut w w' g none := by
 have hu30 := Try.underlying30
 have HI0 := Aside0.mk hI
 have HK := Aside0.mk (KeepBut.refl w g none)
 have HL := Aside0.mk hB.size
 clear hI
 have HW0 := Aside0.mk hB.size
 have HB := Aside0.mk hB
 clear hB
 have H := h
 unfold spec_l10Two.f at H
 clear h
 replace H := sqbi H
 obtain ⟨⟨t409, t410, t411, t412, t413⟩, A2, H⟩ := H
 try dsimp only at H
 replace H := sqbi H
 obtain ⟨⟨t415, t416, t417, t418, t419⟩, A3, H⟩ := H
 try dsimp only at H
 have HC4 := Aside0.mk H
 clear H
 go_enter Try.func179, Try.ntmps179
 go_upto_region 3 with (first | ((with_reducible refine gate_dst (N := 2) rfl ?_); refine sqx 2 #[.int .i64 0, .int .i64 0, .int .i64 0, .int .i64 0] 30 ?_; intro gb407 hg w5 hbox hb; have n0_ := Aside0.mk (IsS161.below (IsS161.mv HI0) hb); have n1_ := Aside0.mk (KeepBut.trans (sqK HK) (KeepBut.of_below hb g none) (.inl rfl)); have n2_ := Aside0.mk (below_step (sqB2 HB (IsS161.ge HI0.out)) hb); have n3_ := Aside0.mk (hbox); have n4_ := Aside0.mk ((by rw [hg]; exact (keep_size (w := w) (g := g) (row := none) (sqK HK)) : w.heap.size ≤ gb407)); have n5_ := Aside0.mk ((Nat.le_trans HW0.out (by rw [hg]; exact (keep_size (w := w) (g := g) (row := none) (sqK HK)) : w.heap.size ≤ gb407) : w0.heap.size ≤ gb407)); have n6_ := Aside0.mk ((by rw [hg]; exact Nat.ne_of_lt (IsS161.lt (show IsS161 w0 _ g s0_0 s0_1 from by repeat (first | (with_reducible first | exact HI0.out | apply IsS161.alloc | apply IsS161.drewN | apply IsS161.drew | apply IsS161.set_1) | exact HI0.out))) : g ≠ gb407)); have n7_ := Aside0.mk ((by rw [hg]; exact Nat.ne_of_gt (IsS161.lt (show IsS161 w0 _ g s0_0 s0_1 from by repeat (first | (with_reducible first | exact HI0.out | apply IsS161.alloc | apply IsS161.drewN | apply IsS161.drew | apply IsS161.set_1) | exact HI0.out))) : gb407 ≠ g)); clear HI0; clear HK; clear HB; have HI0 := n0_; have HK := n1_; have HB := n2_; have BK407 := n3_; have GW407 := n4_; have GE407 := n5_; have NB0_407 := n6_; have NB407_0 := n7_; clear n0_ n1_ n2_ n3_ n4_ n5_ n6_ n7_; clear hb hbox hg) | ((with_reducible refine gate_dst (N := 3) rfl ?_); refine sqx 3 #[.int .i64 0, .int .i64 0, .int .i64 0, .int .i64 0] 30 ?_; intro gb408 hg w6 hbox hb; have n0_ := Aside0.mk (IsS161.below (IsS161.mv HI0) hb); have n1_ := sqb BK407 hb; have n2_ := Aside0.mk (KeepBut.trans (sqK HK) (KeepBut.of_below hb g none) (.inl rfl)); have n3_ := Aside0.mk (below_step (sqB2 HB (IsS161.ge HI0.out)) hb); have n4_ := Aside0.mk (hbox); have n5_ := Aside0.mk ((by rw [hg]; exact (keep_size (w := w) (g := g) (row := none) (sqK HK)) : w.heap.size ≤ gb408)); have n6_ := Aside0.mk ((Nat.le_trans HW0.out (by rw [hg]; exact (keep_size (w := w) (g := g) (row := none) (sqK HK)) : w.heap.size ≤ gb408) : w0.heap.size ≤ gb408)); have n7_ := sqn BK407 hg; have n8_ := sqm BK407 hg; have n9_ := Aside0.mk ((by rw [hg]; exact Nat.ne_of_lt (IsS161.lt (show IsS161 w0 _ g s0_0 s0_1 from by repeat (first | (with_reducible first | exact HI0.out | apply IsS161.alloc | apply IsS161.drewN | apply IsS161.drew | apply IsS161.set_1 | refine IsS161.far ?_ NB0_407.out _) | exact HI0.out))) : g ≠ gb408)); have n10_ := Aside0.mk ((by rw [hg]; exact Nat.ne_of_gt (IsS161.lt (show IsS161 w0 _ g s0_0 s0_1 from by repeat (first | (with_reducible first | exact HI0.out | apply IsS161.alloc | apply IsS161.drewN | apply IsS161.drew | apply IsS161.set_1 | refine IsS161.far ?_ NB0_407.out _) | exact HI0.out))) : gb408 ≠ g)); clear HI0; clear BK407; clear HK; clear HB; have HI0 := n0_; have BK407 := n1_; have HK := n2_; have HB := n3_; have BK408 := n4_; have GW408 := n5_; have GE408 := n6_; have NB407_408 := n7_; have NB408_407 := n8_; have NB0_408 := n9_; have NB408_0 := n10_; clear n0_ n1_ n2_ n3_ n4_ n5_ n6_ n7_ n8_ n9_ n10_; clear hb hbox hg) | ((with_reducible refine gate_callee (f := 216) rfl ?_); refine sqL (some 7) Try.func216 #[.pointer (some ⟨g, 0, none⟩)] ?_; (with_reducible refine (spec_l10Wild.calls k g s0_0 s0_1 t409 t410 t411 t412 t413 w0 _ ?side1 ?side2 A2.out).mono ?_); (case side1 => exact IsS161.mv HI0); (case side2 => exact sqB2 HB (IsS161.ge HI0.out)); rintro e w7 ⟨rfl, hi, hb, hk⟩; refine ⟨_, rfl, ?_⟩; replace BK407 := sqkb hk BK407 NB407_0; replace BK408 := sqkb hk BK408 NB408_0; replace HK := Aside0.mk (KeepBut.trans (sqK HK) hk (.inl rfl)); replace HB := Aside0.mk (hb); replace HI0 := Aside0.mk (hi); (try clear hb); (try clear hb2); (try clear hk); (try clear hi)) | ((with_reducible refine gate_dst (N := 4) rfl ?_); refine sqx 4 #[.int .i64 0, .int .i64 0, .int .i64 0, .int .i64 0] 30 ?_; intro gb414 hg w8 hbox hb; have n0_ := Aside0.mk (IsS161.below (IsS161.mv HI0) hb); have n1_ := sqb BK407 hb; have n2_ := sqb BK408 hb; have n3_ := Aside0.mk (KeepBut.trans (sqK HK) (KeepBut.of_below hb g none) (.inl rfl)); have n4_ := Aside0.mk (below_step (sqB2 HB (IsS161.ge HI0.out)) hb); have n5_ := Aside0.mk (hbox); have n6_ := Aside0.mk ((by rw [hg]; exact (keep_size (w := w) (g := g) (row := none) (sqK HK)) : w.heap.size ≤ gb414)); have n7_ := Aside0.mk ((Nat.le_trans HW0.out (by rw [hg]; exact (keep_size (w := w) (g := g) (row := none) (sqK HK)) : w.heap.size ≤ gb414) : w0.heap.size ≤ gb414)); have n8_ := sqn BK407 hg; have n9_ := sqm BK407 hg; have n10_ := sqn BK408 hg; have n11_ := sqm BK408 hg; have n12_ := Aside0.mk ((by rw [hg]; exact Nat.ne_of_lt (IsS161.lt (show IsS161 w0 _ g s0_0 t413 from by repeat (first | (with_reducible first | exact HI0.out | apply IsS161.alloc | apply IsS161.drewN | apply IsS161.drew | apply IsS161.set_1 | refine IsS161.far ?_ NB0_407.out _ | refine IsS161.far ?_ NB0_408.out _) | exact HI0.out))) : g ≠ gb414)); have n13_ := Aside0.mk ((by rw [hg]; exact Nat.ne_of_gt (IsS161.lt (show IsS161 w0 _ g s0_0 t413 from by repeat (first | (with_reducible first | exact HI0.out | apply IsS161.alloc | apply IsS161.drewN | apply IsS161.drew | apply IsS161.set_1 | refine IsS161.far ?_ NB0_407.out _ | refine IsS161.far ?_ NB0_408.out _) | exact HI0.out))) : gb414 ≠ g)); clear HI0; clear BK407; clear BK408; clear HK; clear HB; have HI0 := n0_; have BK407 := n1_; have BK408 := n2_; have HK := n3_; have HB := n4_; have BK414 := n5_; have GW414 := n6_; have GE414 := n7_; have NB407_414 := n8_; have NB414_407 := n9_; have NB408_414 := n10_; have NB414_408 := n11_; have NB0_414 := n12_; have NB414_0 := n13_; clear n0_ n1_ n2_ n3_ n4_ n5_ n6_ n7_ n8_ n9_ n10_ n11_ n12_ n13_; clear hb hbox hg; obtain ⟨_, _, _, _, _, _⟩ := sqN3 NB414_407 NB414_408 NB414_0; obtain ⟨_, _, _, _, _, _, _, _⟩ := sqc4 BK414) | ((with_reducible refine gate_callee (f := 216) rfl ?_); refine sqL (some 9) Try.func216 #[.pointer (some ⟨g, 0, none⟩)] ?_; (with_reducible refine (spec_l10Wild.calls k g s0_0 t413 t415 t416 t417 t418 t419 w0 _ ?side1 ?side2 A3.out).mono ?_); (case side1 => exact IsS161.mv HI0); (case side2 => exact sqB2 HB (IsS161.ge HI0.out)); rintro e w13 ⟨rfl, hi, hb, hk⟩; refine ⟨_, rfl, ?_⟩; replace BK407 := Aside0.mk (KeepBut.blk hk (g' := gb407) (o := .cells #[.int .i64 0, .int .i64 0, .int .i64 0, .int .i64 0] 30 (0, 0)) (sqT BK407) NB407_0.out (by simp)); replace BK408 := Aside0.mk (KeepBut.blk hk (g' := gb408) (o := .cells #[.int .i64 0, .int .i64 0, .int .i64 0, .int .i64 0] 30 (0, 0)) (sqT BK408) NB408_0.out (by simp)); replace BK414 := Aside0.mk (KeepBut.blk hk (g' := gb414) (o := .cells #[.int .i64 t409, .int .i64 t410, .int .i64 t411, .int .i64 t412] 30 (0, 0)) (sqP BK414) NB414_0.out (by simp)); replace HK := Aside0.mk (KeepBut.trans (sqK HK) hk (.inl rfl)); replace HB := Aside0.mk (hb); replace HI0 := Aside0.mk (hi); (try clear hb); (try clear hb2); (try clear hk); (try clear hi)) | ((with_reducible refine gate_dst (N := 5) rfl ?_); refine sqx 5 #[.int .i64 0, .int .i64 0, .int .i64 0, .int .i64 0] 30 ?_; intro gb420 hg w14 hbox hb; have n0_ := Aside0.mk (IsS161.below (IsS161.mv HI0) hb); have n1_ := sqb BK407 hb; have n2_ := sqb BK408 hb; have n3_ := sqb BK414 hb; have n4_ := Aside0.mk (KeepBut.trans (sqK HK) (KeepBut.of_below hb g none) (.inl rfl)); have n5_ := Aside0.mk (below_step (sqB2 HB (IsS161.ge HI0.out)) hb); have n6_ := Aside0.mk (hbox); have n7_ := Aside0.mk ((by rw [hg]; exact (keep_size (w := w) (g := g) (row := none) (sqK HK)) : w.heap.size ≤ gb420)); have n8_ := Aside0.mk ((Nat.le_trans HW0.out (by rw [hg]; exact (keep_size (w := w) (g := g) (row := none) (sqK HK)) : w.heap.size ≤ gb420) : w0.heap.size ≤ gb420)); have n9_ := sqn BK407 hg; have n10_ := sqm BK407 hg; have n11_ := sqn BK408 hg; have n12_ := sqm BK408 hg; have n13_ := sqn BK414 hg; have n14_ := sqm BK414 hg; have n15_ := Aside0.mk ((by rw [hg]; exact Nat.ne_of_lt (IsS161.lt (show IsS161 w0 _ g s0_0 t419 from by repeat (first | (with_reducible first | exact HI0.out | apply IsS161.alloc | apply IsS161.drewN | apply IsS161.drew | apply IsS161.set_1 | refine IsS161.far ?_ NB0_407.out _ | refine IsS161.far ?_ NB0_408.out _ | refine IsS161.far ?_ NB0_414.out _) | exact HI0.out))) : g ≠ gb420)); have n16_ := Aside0.mk ((by rw [hg]; exact Nat.ne_of_gt (IsS161.lt (show IsS161 w0 _ g s0_0 t419 from by repeat (first | (with_reducible first | exact HI0.out | apply IsS161.alloc | apply IsS161.drewN | apply IsS161.drew | apply IsS161.set_1 | refine IsS161.far ?_ NB0_407.out _ | refine IsS161.far ?_ NB0_408.out _ | refine IsS161.far ?_ NB0_414.out _) | exact HI0.out))) : gb420 ≠ g)); clear HI0; clear BK407; clear BK408; clear BK414; clear HK; clear HB; have HI0 := n0_; have BK407 := n1_; have BK408 := n2_; have BK414 := n3_; have HK := n4_; have HB := n5_; have BK420 := n6_; have GW420 := n7_; have GE420 := n8_; have NB407_420 := n9_; have NB420_407 := n10_; have NB408_420 := n11_; have NB420_408 := n12_; have NB414_420 := n13_; have NB420_414 := n14_; have NB0_420 := n15_; have NB420_0 := n16_; clear n0_ n1_ n2_ n3_ n4_ n5_ n6_ n7_ n8_ n9_ n10_ n11_ n12_ n13_ n14_ n15_ n16_; clear hb hbox hg; obtain ⟨_, _, _, _, _, _, _, _⟩ := sqN4 NB420_407 NB420_408 NB420_414 NB420_0; obtain ⟨_, _, _, _, _, _, _, _⟩ := sqc4 BK420))
 (try simp only [Act.put, List.setIfInBounds_toArray, List.set_cons_zero, List.set_cons_succ])
 go_cut [21] (fun v21 wc => ∃ (kq : Nat) (x21_3 : Bool) (x1001_3 : Int), v21 = .bool x21_3 ∧ Aside0 (spec_l10Two.j0 kq x21_3 s0_0 x1001_3 t409 t410 t411 t412 t415 t416 t417 t418 = some (r1, r2, r3, r4, r5, r6, r7, r8, r9)) ∧ Aside0 (kq ≤ k) ∧ Aside0 (wc.heap[gb407]? = some (.cells #[.int .i64 0, .int .i64 0, .int .i64 0, .int .i64 0] 30 (0, 0))) ∧ Aside0 (wc.heap[gb408]? = some (.cells #[.int .i64 0, .int .i64 0, .int .i64 0, .int .i64 0] 30 (0, 0))) ∧ Aside0 (wc.heap[gb414]? = some (.cells #[.int .i64 t409, .int .i64 t410, .int .i64 t411, .int .i64 t412] 30 (0, 0))) ∧ Aside0 (wc.heap[gb420]? = some (.cells #[.int .i64 t415, .int .i64 t416, .int .i64 t417, .int .i64 t418] 30 (0, 0))) ∧ Aside0 (IsS161 w0 wc g s0_0 x1001_3) ∧ Aside0 (KeepBut w wc g none) ∧ Aside0 (Below w0.heap.size w0 wc))
 case first =>
  have H := HC4.out
  clear HC4
  replace H := sqbi H
  obtain ⟨⟨t421, t422⟩, A20, H⟩ := H
  try dsimp only at H
  replace H := sqi H
  rcases H with ⟨c21, H⟩ | ⟨c21, H⟩
  ·have c21b0 : (t421 == 0) = false := beq_eq_false_iff_ne.mpr c21
   have c21b1 : (t421 != 0) = true := bne_iff_ne.mpr c21
   (first | rw [c21b0] | (simp only [i64_w, i32_w]; rw [c21b0]) | skip)
   have H' := Aside0.mk H
   clear H
   try go_wp2
   obtain ⟨w34, hw_⟩ : ∃ w_, w_ = ((((w14.setCell ⟨gb420, 0, none⟩ (.int .i64 t415)).setCell ⟨gb420, 1, none⟩ (.int .i64 t416)).setCell ⟨gb420, 2, none⟩ (.int .i64 t417)).setCell ⟨gb420, 3, none⟩ (.int .i64 t418)) := ⟨_, rfl⟩
   replace BK407 := sqTe hw_ BK407
   replace BK408 := sqTe hw_ BK408
   replace BK414 := sqTe hw_ BK414
   replace BK420 : Aside0 (w34.heap[gb420]? = some (.cells #[.int .i64 t415, .int .i64 t416, .int .i64 t417, .int .i64 t418] 30 (0, 0))) := by rw [hw_]; exact ⟨sqP BK420⟩
   replace HK : Aside0 (KeepBut w w34 g none) := by rw [hw_]; exact ⟨sqK HK⟩
   replace HB : Aside0 (Below w0.heap.size w0 w34) := by rw [hw_]; exact ⟨sqB2 HB (IsS161.ge HI0.out)⟩
   replace HI0 : Aside0 (IsS161 w0 w34 g s0_0 t419) := by rw [hw_]; exact ⟨IsS161.mv HI0⟩
   rw [← hw_]
   clear hw_
   replace BK407 := sqdr BK407
   replace BK408 := sqdr BK408
   replace BK414 := sqdr BK414
   replace BK420 := sqdr BK420
   replace HI0 := Aside0.mk (IsS161.drew HI0.out)
   replace HK := sqdK HK
   replace HB := sqdB HB
   refine sqst 12 (fun w' => True) trivial (fun hHeld => ?_); refine with_tabW spec_l10Two.tab3 spec_l10Two.bits3 (fun HT_ HW_ => ?_)
   generalize w34.drew = w35 at BK407 BK408 BK414 BK420 HI0 HK HB hHeld ⊢
   refine sqp HT_ 0 10 ?_
   refine sqo HT_ 1 11 (fun K hK => ?_)
   refine sqG Try.func109 #[.pointer (some ⟨g, 0, none⟩), .int .i64 3] ?_
   with_reducible refine (spec_l1Rd_pick.calls k g s0_0 t419 3 t421 t422 w0 _ ?side1 ?side2 A20.out).mono ?_
   (case side1 => exact IsS161.mv HI0)
   (case side2 => exact sqB2 HB (IsS161.ge HI0.out))
   rintro e w36 ⟨rfl, hi, hb, hk⟩
   refine ⟨_, rfl, ?_⟩
   replace BK407 := sqkb hk BK407 NB407_0
   replace BK408 := sqkb hk BK408 NB408_0
   replace BK414 := sqkb hk BK414 NB414_0
   replace BK420 := sqkb hk BK420 NB420_0
   replace HK := Aside0.mk (KeepBut.trans (sqK HK) hk (.inl rfl))
   replace HB := Aside0.mk (hb)
   replace HI0 := Aside0.mk (hi)
   (try clear hb)
   (try clear hb2)
   (try clear hk)
   (try clear hi)
   refine hK.out _ _ trivial (fun hHeld => ?_)
   clear hK K
   refine sqnm ?_
   refine sqp HT_ 2 12 ?_
   refine sqp HT_ 3 13 ?_
   refine sqpu HT_ 4 14 ?_
   refine sqpu HT_ 5 15 ?_
   refine sqp HT_ 6 16 ?_
   refine sqp HT_ 7 17 ?_
   refine sqpu HT_ 8 18 ?_
   refine sqpu HT_ 9 19 ?_
   refine sqpu HT_ 10 20 ?_
   refine sqp HT_ 11 21 ?_
   refine done_ (done_of HT_.out (by kernel_rfl)) ?_
   try go_wp2
   go_meet
   case rel => exact ⟨_, (false), (t422), (by first | rfl | (simp; done) | (simp [*]; done)), H', ⟨by first | omega | exact Nat.le_refl _⟩, sqk BK407, sqk BK408, sqk BK414, sqk BK420, ⟨IsS161.mv HI0⟩, ⟨sqK HK⟩, ⟨sqB2 HB (IsS161.ge HI0.out)⟩⟩
  have c21b0 : (t421 == 0) = true := beq_iff_eq.mpr c21
  have c21b1 : (t421 != 0) = false := bne_eq_false_iff_eq.mpr c21
  clear c21
  (first | rw [c21b0] | (simp only [i64_w, i32_w]; rw [c21b0]) | skip)
  replace H := sqbi H
  obtain ⟨t423, A22, H⟩ := H
  try dsimp only at H
  rcases sqI (t423 = true) with c23 | c23
  ·replace c23 := Bool.eq_false_iff.mpr c23
   subst c23
   have H1 : (spec_l10Two.j0 k false s0_0 t422 t409 t410 t411 t412 t415 t416 t417 t418) = some (r1, r2, r3, r4, r5, r6, r7, r8, r9) := by rw [if_neg (show ¬ (false = true) by decide)] at H; exact H
   clear H
   have H := H1
   clear H1
   have H' := Aside0.mk H
   clear H
   try go_wp2
   obtain ⟨w30, hw_⟩ : ∃ w_, w_ = ((((w14.setCell ⟨gb420, 0, none⟩ (.int .i64 t415)).setCell ⟨gb420, 1, none⟩ (.int .i64 t416)).setCell ⟨gb420, 2, none⟩ (.int .i64 t417)).setCell ⟨gb420, 3, none⟩ (.int .i64 t418)) := ⟨_, rfl⟩
   replace BK407 := sqTe hw_ BK407
   replace BK408 := sqTe hw_ BK408
   replace BK414 := sqTe hw_ BK414
   replace BK420 : Aside0 (w30.heap[gb420]? = some (.cells #[.int .i64 t415, .int .i64 t416, .int .i64 t417, .int .i64 t418] 30 (0, 0))) := by rw [hw_]; exact ⟨sqP BK420⟩
   replace HK : Aside0 (KeepBut w w30 g none) := by rw [hw_]; exact ⟨sqK HK⟩
   replace HB : Aside0 (Below w0.heap.size w0 w30) := by rw [hw_]; exact ⟨sqB2 HB (IsS161.ge HI0.out)⟩
   replace HI0 : Aside0 (IsS161 w0 w30 g s0_0 t419) := by rw [hw_]; exact ⟨IsS161.mv HI0⟩
   rw [← hw_]
   clear hw_
   replace BK407 := sqdr BK407
   replace BK408 := sqdr BK408
   replace BK414 := sqdr BK414
   replace BK420 := sqdr BK420
   replace HI0 := Aside0.mk (IsS161.drew HI0.out)
   replace HK := sqdK HK
   replace HB := sqdB HB
   refine sqst 12 (fun w' => w'.cell? ⟨gb414, 0, none⟩ = some (.int .i64 t409) ∧ w'.cell? ⟨gb414, 1, none⟩ = some (.int .i64 t410) ∧ w'.cell? ⟨gb414, 2, none⟩ = some (.int .i64 t411) ∧ w'.cell? ⟨gb414, 3, none⟩ = some (.int .i64 t412)) sqz (fun hHeld => ?_); refine with_tabW spec_l10Two.tab3 spec_l10Two.bits3 (fun HT_ HW_ => ?_)
   generalize w30.drew = w31 at BK407 BK408 BK414 BK420 HI0 HK HB hHeld ⊢
   refine sqp HT_ 0 10 ?_
   refine sqo HT_ 1 11 (fun K hK => ?_)
   refine sqG Try.func109 #[.pointer (some ⟨g, 0, none⟩), .int .i64 3] ?_
   with_reducible refine (spec_l1Rd_pick.calls k g s0_0 t419 3 t421 t422 w0 _ ?side1 ?side2 A20.out).mono ?_
   (case side1 => exact IsS161.mv HI0)
   (case side2 => exact sqB2 HB (IsS161.ge HI0.out))
   rintro e w32 ⟨rfl, hi, hb, hk⟩
   refine ⟨_, rfl, ?_⟩
   replace BK407 := sqkb hk BK407 NB407_0
   replace BK408 := sqkb hk BK408 NB408_0
   replace BK414 := sqkb hk BK414 NB414_0
   replace BK420 := sqkb hk BK420 NB420_0
   replace HK := Aside0.mk (KeepBut.trans (sqK HK) hk (.inl rfl))
   replace HB := Aside0.mk (hb)
   replace HI0 := Aside0.mk (hi)
   (try clear hb)
   (try clear hb2)
   (try clear hk)
   (try clear hi)
   refine hK.out _ _ sqz (fun hHeld => ?_)
   clear hK K
   refine sqnm ?_
   refine sqp HT_ 2 12 ?_
   refine sqp HT_ 3 13 ?_
   refine sqw HT_ HW_ 4 14 hHeld ?_
   refine sqo HT_ 5 15 (fun K hK => ?_)
   refine sqG Try.func80 #[.agg #[.int .i64 t409, .int .i64 t410, .int .i64 t411, .int .i64 t412]] ?_
   with_reducible refine (spec_ValOk.calls k t409 t410 t411 t412 false _ A22.out).mono ?_
   rintro e w33 ⟨rfl, hb⟩
   refine ⟨_, rfl, ?_⟩
   replace BK407 := sqb BK407 hb
   replace BK408 := sqb BK408 hb
   replace BK414 := sqb BK414 hb
   replace BK420 := sqb BK420 hb
   replace HK := Aside0.mk (KeepBut.trans (sqK HK) (KeepBut.of_below hb g none) (.inl rfl))
   replace HB := Aside0.mk (below_step (sqB2 HB (IsS161.ge HI0.out)) hb)
   replace HI0 := Aside0.mk (IsS161.below (IsS161.mv HI0) hb)
   (try clear hb)
   refine hK.out _ _ sqz (fun hHeld => ?_)
   clear hK K
   refine sqnm ?_
   refine sqp HT_ 6 16 ?_
   refine sqp HT_ 7 17 ?_
   refine sqpu HT_ 8 18 ?_
   refine sqpu HT_ 9 19 ?_
   refine sqpu HT_ 10 20 ?_
   refine sqp HT_ 11 21 ?_
   refine done_ (done_of HT_.out (by kernel_rfl)) ?_
   try go_wp2
   go_meet
   case rel => exact ⟨_, (false), (t422), (by first | rfl | (simp; done) | (simp [*]; done)), H', ⟨by first | omega | exact Nat.le_refl _⟩, sqk BK407, sqk BK408, sqk BK414, sqk BK420, ⟨IsS161.mv HI0⟩, ⟨sqK HK⟩, ⟨sqB2 HB (IsS161.ge HI0.out)⟩⟩
  subst c23
  have H1 : ((spec_l10None.f).bind fun bt424 => (spec_l10Two.j0 k (!(t409 == bt424.1) || (!(t410 == bt424.2.1) || (!(t411 == bt424.2.2.1) || (!(t412 == bt424.2.2.2))))) s0_0 t422 t409 t410 t411 t412 t415 t416 t417 t418)) = some (r1, r2, r3, r4, r5, r6, r7, r8, r9) := by rw [if_pos rfl] at H; exact H
  clear H
  have H := H1
  clear H1
  replace H := sqbi H
  obtain ⟨⟨t424, t425, t426, t427⟩, A24, H⟩ := H
  try dsimp only at H
  have H' := Aside0.mk H
  clear H
  try go_wp2
  obtain ⟨w25, hw_⟩ : ∃ w_, w_ = ((((w14.setCell ⟨gb420, 0, none⟩ (.int .i64 t415)).setCell ⟨gb420, 1, none⟩ (.int .i64 t416)).setCell ⟨gb420, 2, none⟩ (.int .i64 t417)).setCell ⟨gb420, 3, none⟩ (.int .i64 t418)) := ⟨_, rfl⟩
  replace BK407 := sqTe hw_ BK407
  replace BK408 := sqTe hw_ BK408
  replace BK414 := sqTe hw_ BK414
  replace BK420 : Aside0 (w25.heap[gb420]? = some (.cells #[.int .i64 t415, .int .i64 t416, .int .i64 t417, .int .i64 t418] 30 (0, 0))) := by rw [hw_]; exact ⟨sqP BK420⟩
  replace HK : Aside0 (KeepBut w w25 g none) := by rw [hw_]; exact ⟨sqK HK⟩
  replace HB : Aside0 (Below w0.heap.size w0 w25) := by rw [hw_]; exact ⟨sqB2 HB (IsS161.ge HI0.out)⟩
  replace HI0 : Aside0 (IsS161 w0 w25 g s0_0 t419) := by rw [hw_]; exact ⟨IsS161.mv HI0⟩
  rw [← hw_]
  clear hw_
  replace BK407 := sqdr BK407
  replace BK408 := sqdr BK408
  replace BK414 := sqdr BK414
  replace BK420 := sqdr BK420
  replace HI0 := Aside0.mk (IsS161.drew HI0.out)
  replace HK := sqdK HK
  replace HB := sqdB HB
  refine sqst 12 (fun w' => w'.cell? ⟨gb414, 0, none⟩ = some (.int .i64 t409) ∧ w'.cell? ⟨gb414, 1, none⟩ = some (.int .i64 t410) ∧ w'.cell? ⟨gb414, 2, none⟩ = some (.int .i64 t411) ∧ w'.cell? ⟨gb414, 3, none⟩ = some (.int .i64 t412)) sqz (fun hHeld => ?_); refine with_tabW spec_l10Two.tab3 spec_l10Two.bits3 (fun HT_ HW_ => ?_)
  generalize w25.drew = w26 at BK407 BK408 BK414 BK420 HI0 HK HB hHeld ⊢
  refine sqp HT_ 0 10 ?_
  refine sqo HT_ 1 11 (fun K hK => ?_)
  refine sqG Try.func109 #[.pointer (some ⟨g, 0, none⟩), .int .i64 3] ?_
  with_reducible refine (spec_l1Rd_pick.calls k g s0_0 t419 3 t421 t422 w0 _ ?side1 ?side2 A20.out).mono ?_
  (case side1 => exact IsS161.mv HI0)
  (case side2 => exact sqB2 HB (IsS161.ge HI0.out))
  rintro e w27 ⟨rfl, hi, hb, hk⟩
  refine ⟨_, rfl, ?_⟩
  replace BK407 := sqkb hk BK407 NB407_0
  replace BK408 := sqkb hk BK408 NB408_0
  replace BK414 := sqkb hk BK414 NB414_0
  replace BK420 := sqkb hk BK420 NB420_0
  replace HK := Aside0.mk (KeepBut.trans (sqK HK) hk (.inl rfl))
  replace HB := Aside0.mk (hb)
  replace HI0 := Aside0.mk (hi)
  (try clear hb)
  (try clear hb2)
  (try clear hk)
  (try clear hi)
  refine hK.out _ _ sqz (fun hHeld => ?_)
  clear hK K
  refine sqnm ?_
  refine sqp HT_ 2 12 ?_
  refine sqp HT_ 3 13 ?_
  refine sqw HT_ HW_ 4 14 hHeld ?_
  refine sqo HT_ 5 15 (fun K hK => ?_)
  refine sqG Try.func80 #[.agg #[.int .i64 t409, .int .i64 t410, .int .i64 t411, .int .i64 t412]] ?_
  with_reducible refine (spec_ValOk.calls k t409 t410 t411 t412 true _ A22.out).mono ?_
  rintro e w28 ⟨rfl, hb⟩
  refine ⟨_, rfl, ?_⟩
  replace BK407 := sqb BK407 hb
  replace BK408 := sqb BK408 hb
  replace BK414 := sqb BK414 hb
  replace BK420 := sqb BK420 hb
  replace HK := Aside0.mk (KeepBut.trans (sqK HK) (KeepBut.of_below hb g none) (.inl rfl))
  replace HB := Aside0.mk (below_step (sqB2 HB (IsS161.ge HI0.out)) hb)
  replace HI0 := Aside0.mk (IsS161.below (IsS161.mv HI0) hb)
  (try clear hb)
  refine hK.out _ _ sqz (fun hHeld => ?_)
  clear hK K
  refine sqnm ?_
  refine sqp HT_ 6 16 ?_
  refine sqp HT_ 7 17 ?_
  refine sqw HT_ HW_ 8 18 hHeld ?_
  refine sqo HT_ 9 19 (fun K hK => ?_)
  refine sqG Try.func100 #[] ?_
  with_reducible refine (spec_l10None.calls  t424 t425 t426 t427 _ A24.out).mono ?_
  rintro e w29 ⟨rfl, hb⟩
  refine ⟨_, rfl, ?_⟩
  replace BK407 := sqb BK407 hb
  replace BK408 := sqb BK408 hb
  replace BK414 := sqb BK414 hb
  replace BK420 := sqb BK420 hb
  replace HK := Aside0.mk (KeepBut.trans (sqK HK) (KeepBut.of_below hb g none) (.inl rfl))
  replace HB := Aside0.mk (below_step (sqB2 HB (IsS161.ge HI0.out)) hb)
  replace HI0 := Aside0.mk (IsS161.below (IsS161.mv HI0) hb)
  (try clear hb)
  refine hK.out _ _ sqz (fun hHeld => ?_)
  clear hK K
  refine sqnm ?_
  refine sqp HT_ 10 20 ?_
  refine sqp HT_ 11 21 ?_
  refine done_ (done_of HT_.out (by kernel_rfl)) ?_
  try go_wp2
  go_meet
  case rel => exact ⟨_, ((!(t409 == t424) || (!(t410 == t425) || (!(t411 == t426) || (!(t412 == t427)))))), (t422), (by first | rfl | (simp; done) | (simp [*]; done)), H', ⟨by first | omega | exact Nat.le_refl _⟩, sqk BK407, sqk BK408, sqk BK414, sqk BK420, ⟨IsS161.mv HI0⟩, ⟨sqK HK⟩, ⟨sqB2 HB (IsS161.ge HI0.out)⟩⟩
 case rest =>
  clear HC4
  obtain ⟨kq, x21_3, x1001_3, rfl, HA, HJ3, BK407, BK408, BK414, BK420, HI0, HK, HB⟩ := hcut
  cases kq with
  | zero => exact absurd HA.out (by simp [spec_l10Two.j0])
  | succ kj3 =>
   have H := HA.out
   clear HA
   simp only [spec_l10Two.j0] at H
   have HC37 := Aside0.mk H
   clear H
   go_upto_if 21 with (fail)
   go_cut [] (fun wc => ∃ (kq : Nat) (x1001_36 : Int) (x421000_36 : Int) (x421001_36 : Int) (x421002_36 : Int) (x421003_36 : Int), Aside0 (spec_l10Two.j1 kq s0_0 x1001_36 t409 t410 t411 t412 x421000_36 x421001_36 x421002_36 x421003_36 = some (r1, r2, r3, r4, r5, r6, r7, r8, r9)) ∧ Aside0 (kq ≤ kj3) ∧ Aside0 (wc.heap[gb407]? = some (.cells #[.int .i64 0, .int .i64 0, .int .i64 0, .int .i64 0] 30 (0, 0))) ∧ Aside0 (wc.heap[gb408]? = some (.cells #[.int .i64 0, .int .i64 0, .int .i64 0, .int .i64 0] 30 (0, 0))) ∧ Aside0 (wc.heap[gb414]? = some (.cells #[.int .i64 t409, .int .i64 t410, .int .i64 t411, .int .i64 t412] 30 (0, 0))) ∧ Aside0 (wc.heap[gb420]? = some (.cells #[.int .i64 x421000_36, .int .i64 x421001_36, .int .i64 x421002_36, .int .i64 x421003_36] 30 (0, 0))) ∧ Aside0 (IsS161 w0 wc g s0_0 x1001_36) ∧ Aside0 (KeepBut w wc g none) ∧ Aside0 (Below w0.heap.size w0 wc))
   case first =>
    have H := HC37.out
    clear HC37
    rcases sqI (x21_3 = true) with c38 | c38
    ·replace c38 := Bool.eq_false_iff.mpr c38
     subst c38
     have H1 : (spec_l10Two.j1 kj3 s0_0 x1001_3 t409 t410 t411 t412 t415 t416 t417 t418) = some (r1, r2, r3, r4, r5, r6, r7, r8, r9) := by rw [if_neg (show ¬ (false = true) by decide)] at H; exact H
     clear H
     have H := H1
     clear H1
     have H' := Aside0.mk H
     clear H
     go_wp2
     go_meet
     case rel => exact ⟨_, (x1001_3), (t415), (t416), (t417), (t418), H', ⟨by have := HJ3.out; first | omega | exact Nat.le_refl _⟩, sqk BK407, sqk BK408, sqk BK414, sqk BK420, ⟨IsS161.mv HI0⟩, ⟨sqK HK⟩, ⟨sqB2 HB (IsS161.ge HI0.out)⟩⟩
    subst c38
    have H1 : ((spec_l1Rd_pick.f kj3 s0_0 x1001_3 9).bind fun bt428 => ((spec_l1Rd_pick.f kj3 s0_0 bt428.2 9).bind fun bt430 => ((spec_l8Cut.f (wrap64 ((wrap64 (t409 + bt428.1)) - 4)) (wrap64 ((wrap64 (t410 + bt430.1)) - 4))).bind fun bt432 => ((spec_l9Rest.f kj3 s0_0 bt430.2).bind fun bt434 => ((spec_ValMake.f kj3 bt432.1 bt432.2 bt434.1 bt434.2.1).bind fun bt437 => (spec_l10Two.j1 kj3 s0_0 bt434.2.2 t409 t410 t411 t412 bt437.1 bt437.2.1 bt437.2.2.1 bt437.2.2.2)))))) = some (r1, r2, r3, r4, r5, r6, r7, r8, r9) := by rw [if_pos rfl] at H; exact H
    clear H
    have H := H1
    clear H1
    replace H := sqbi H
    obtain ⟨⟨t428, t429⟩, A39, H⟩ := H
    try dsimp only at H
    replace H := sqbi H
    obtain ⟨⟨t430, t431⟩, A40, H⟩ := H
    try dsimp only at H
    replace H := sqbi H
    obtain ⟨⟨t432, t433⟩, A41, H⟩ := H
    try dsimp only at H
    replace H := sqbi H
    obtain ⟨⟨t434, t435, t436⟩, A42, H⟩ := H
    try dsimp only at H
    replace H := sqbi H
    obtain ⟨⟨t437, t438, t439, t440⟩, A43, H⟩ := H
    try dsimp only at H
    have H' := Aside0.mk H
    clear H
    try go_wp2
    replace BK407 := sqdr BK407
    replace BK408 := sqdr BK408
    replace BK414 := sqdr BK414
    replace BK420 := sqdr BK420
    replace HI0 := Aside0.mk (IsS161.drew HI0.out)
    replace HK := sqdK HK
    replace HB := sqdB HB
    refine sqst 17 (fun w' => w'.cell? ⟨gb414, 0, none⟩ = some (.int .i64 t409) ∧ w'.cell? ⟨gb414, 1, none⟩ = some (.int .i64 t410) ∧ w'.cell? ⟨gb414, 2, none⟩ = some (.int .i64 t411) ∧ w'.cell? ⟨gb414, 3, none⟩ = some (.int .i64 t412)) sqz (fun hHeld => ?_); refine with_tabW spec_l10Two.tab4 spec_l10Two.bits4 (fun HT_ HW_ => ?_)
    generalize wc.drew = w44 at BK407 BK408 BK414 BK420 HI0 HK HB hHeld ⊢
    refine sqp HT_ 0 22 ?_
    refine sqp HT_ 2 24 ?_
    refine sqp HT_ 6 28 ?_
    refine sqp HT_ 8 30 ?_
    refine sqp HT_ 13 35 ?_
    refine sqw HT_ HW_ 1 23 hHeld ?_
    refine sqw HT_ HW_ 7 29 hHeld ?_
    refine sqo HT_ 3 25 (fun K hK => ?_)
    refine sqG Try.func109 #[.pointer (some ⟨g, 0, none⟩), .int .i64 9] ?_
    with_reducible refine (spec_l1Rd_pick.calls kj3 g s0_0 x1001_3 9 t428 t429 w0 _ ?side1 ?side2 A39.out).mono ?_
    (case side1 => exact IsS161.mv HI0)
    (case side2 => exact sqB2 HB (IsS161.ge HI0.out))
    rintro e w45 ⟨rfl, hi, hb, hk⟩
    refine ⟨_, rfl, ?_⟩
    replace BK407 := sqkb hk BK407 NB407_0
    replace BK408 := sqkb hk BK408 NB408_0
    replace BK414 := sqkb hk BK414 NB414_0
    replace BK420 := sqkb hk BK420 NB420_0
    replace HK := Aside0.mk (KeepBut.trans (sqK HK) hk (.inl rfl))
    replace HB := Aside0.mk (hb)
    replace HI0 := Aside0.mk (hi)
    (try clear hb)
    (try clear hb2)
    (try clear hk)
    (try clear hi)
    refine hK.out _ _ sqz (fun hHeld => ?_)
    clear hK K
    refine sqnm ?_
    refine sqp HT_ 4 26 ?_
    refine sqp HT_ 5 27 ?_
    refine sqo HT_ 9 31 (fun K hK => ?_)
    refine sqG Try.func109 #[.pointer (some ⟨g, 0, none⟩), .int .i64 9] ?_
    with_reducible refine (spec_l1Rd_pick.calls kj3 g s0_0 t429 9 t430 t431 w0 _ ?side1 ?side2 A40.out).mono ?_
    (case side1 => exact IsS161.mv HI0)
    (case side2 => exact sqB2 HB (IsS161.ge HI0.out))
    rintro e w46 ⟨rfl, hi, hb, hk⟩
    refine ⟨_, rfl, ?_⟩
    replace BK407 := sqkb hk BK407 NB407_0
    replace BK408 := sqkb hk BK408 NB408_0
    replace BK414 := sqkb hk BK414 NB414_0
    replace BK420 := sqkb hk BK420 NB420_0
    replace HK := Aside0.mk (KeepBut.trans (sqK HK) hk (.inl rfl))
    replace HB := Aside0.mk (hb)
    replace HI0 := Aside0.mk (hi)
    (try clear hb)
    (try clear hb2)
    (try clear hk)
    (try clear hi)
    refine hK.out _ _ sqz (fun hHeld => ?_)
    clear hK K
    refine sqnm ?_
    refine sqp HT_ 10 32 ?_
    refine sqp HT_ 11 33 ?_
    refine sqo HT_ 12 34 (fun K hK => ?_)
    refine sqG Try.func133 #[.int .i64 (wrap64 ((wrap64 (t409 + t428)) - 4)), .int .i64 (wrap64 ((wrap64 (t410 + t430)) - 4))] ?_
    with_reducible refine (spec_l8Cut.calls (wrap64 ((wrap64 (t409 + t428)) - 4)) (wrap64 ((wrap64 (t410 + t430)) - 4)) t432 t433 _ A41.out).mono ?_
    rintro e w47 ⟨rfl, hb⟩
    refine ⟨_, rfl, ?_⟩
    replace BK407 := sqb BK407 hb
    replace BK408 := sqb BK408 hb
    replace BK414 := sqb BK414 hb
    replace BK420 := sqb BK420 hb
    replace HK := Aside0.mk (KeepBut.trans (sqK HK) (KeepBut.of_below hb g none) (.inl rfl))
    replace HB := Aside0.mk (below_step (sqB2 HB (IsS161.ge HI0.out)) hb)
    replace HI0 := Aside0.mk (IsS161.below (IsS161.mv HI0) hb)
    (try clear hb)
    refine hK.out _ _ sqz (fun hHeld => ?_)
    clear hK K
    refine sqnm ?_
    refine sqo HT_ 14 36 (fun K hK => ?_)
    refine sqG Try.func194 #[.pointer (some ⟨g, 0, none⟩)] ?_
    with_reducible refine (spec_l9Rest.calls kj3 g s0_0 t431 t434 t435 t436 w0 _ ?side1 ?side2 A42.out).mono ?_
    (case side1 => exact IsS161.mv HI0)
    (case side2 => exact sqB2 HB (IsS161.ge HI0.out))
    rintro e w48 ⟨rfl, hi, hb, hk⟩
    refine ⟨_, rfl, ?_⟩
    replace BK407 := sqkb hk BK407 NB407_0
    replace BK408 := sqkb hk BK408 NB408_0
    replace BK414 := sqkb hk BK414 NB414_0
    replace BK420 := sqkb hk BK420 NB420_0
    replace HK := Aside0.mk (KeepBut.trans (sqK HK) hk (.inl rfl))
    replace HB := Aside0.mk (hb)
    replace HI0 := Aside0.mk (hi)
    (try clear hb)
    (try clear hb2)
    (try clear hk)
    (try clear hi)
    refine hK.out _ _ sqz (fun hHeld => ?_)
    clear hK K
    refine sqnm ?_
    refine sqo HT_ 15 37 (fun K hK => ?_)
    refine sqG Try.func17 #[.agg #[.int .i64 t432, .int .i64 t433], .agg #[.int .i64 t434, .int .i64 t435]] ?_
    with_reducible refine (spec_ValMake.calls kj3 t432 t433 t434 t435 t437 t438 t439 t440 _ A43.out).mono ?_
    rintro e w49 ⟨rfl, hb⟩
    refine ⟨_, rfl, ?_⟩
    replace BK407 := sqb BK407 hb
    replace BK408 := sqb BK408 hb
    replace BK414 := sqb BK414 hb
    replace BK420 := sqb BK420 hb
    replace HK := Aside0.mk (KeepBut.trans (sqK HK) (KeepBut.of_below hb g none) (.inl rfl))
    replace HB := Aside0.mk (below_step (sqB2 HB (IsS161.ge HI0.out)) hb)
    replace HI0 := Aside0.mk (IsS161.below (IsS161.mv HI0) hb)
    (try clear hb)
    refine hK.out _ _ sqz (fun hHeld => ?_)
    clear hK K
    refine sqnm ?_
    refine one_ (i := 16) (N := none) #[true, true, true, true, true, true, true, true, true, true, true, true, true, true, true, true, true] rfl rfl (one_of HT_.out (by kernel_rfl)) (by decide) (fun K hK => ?_)
    have hs50 : w49.cell? ⟨gb420, 0, none⟩ = some (.int .i64 t415) := (blk_cell BK420.out 0).trans rfl
    have hfs50 := blk_frozen BK420.out 0
    have hns50_0 := NB407_420.out
    have hns50_1 := NB408_420.out
    have hns50_2 := NB414_420.out
    have hms50_0 := NB420_407.out
    have hms50_1 := NB420_408.out
    have hms50_2 := NB420_414.out
    have hs51 : w49.cell? ⟨gb420, 1, none⟩ = some (.int .i64 t416) := (blk_cell BK420.out 1).trans rfl
    have hfs51 := blk_frozen BK420.out 1
    have hns51_0 := NB407_420.out
    have hns51_1 := NB408_420.out
    have hns51_2 := NB414_420.out
    have hms51_0 := NB420_407.out
    have hms51_1 := NB420_408.out
    have hms51_2 := NB420_414.out
    have hs52 : w49.cell? ⟨gb420, 2, none⟩ = some (.int .i64 t417) := (blk_cell BK420.out 2).trans rfl
    have hfs52 := blk_frozen BK420.out 2
    have hns52_0 := NB407_420.out
    have hns52_1 := NB408_420.out
    have hns52_2 := NB414_420.out
    have hms52_0 := NB420_407.out
    have hms52_1 := NB420_408.out
    have hms52_2 := NB420_414.out
    have hs53 : w49.cell? ⟨gb420, 3, none⟩ = some (.int .i64 t418) := (blk_cell BK420.out 3).trans rfl
    have hfs53 := blk_frozen BK420.out 3
    have hns53_0 := NB407_420.out
    have hns53_1 := NB408_420.out
    have hns53_2 := NB414_420.out
    have hms53_0 := NB420_407.out
    have hms53_1 := NB420_408.out
    have hms53_2 := NB420_414.out
    refine skip_ (w1 := ?_) (by rfl) rfl ?_ ?_
    rotate_left
    ·go_simp
     rfl
    refine hK.out _ _ ⟨(sqfa NB414_420 ((sqfa NB414_420 ((sqfa NB414_420 ((sqfa NB414_420 (hHeld.1)))))))), (sqfa NB414_420 ((sqfa NB414_420 ((sqfa NB414_420 ((sqfa NB414_420 (hHeld.2.1)))))))), (sqfa NB414_420 ((sqfa NB414_420 ((sqfa NB414_420 ((sqfa NB414_420 (hHeld.2.2.1)))))))), (sqfa NB414_420 ((sqfa NB414_420 ((sqfa NB414_420 ((sqfa NB414_420 (hHeld.2.2.2))))))))⟩ (fun hHeld => ?_)
    clear hK K
    refine done_ (done_of HT_.out (by kernel_rfl)) ?_
    try go_wp2
    go_meet
    case rel => exact ⟨_, (t436), (t437), (t438), (t439), (t440), H', ⟨by have := HJ3.out; first | omega | exact Nat.le_refl _⟩, ⟨sqT BK407⟩, ⟨sqT BK408⟩, ⟨sqT BK414⟩, ⟨sqP BK420⟩, ⟨IsS161.mv HI0⟩, ⟨sqK HK⟩, ⟨sqB2 HB (IsS161.ge HI0.out)⟩⟩
   case rest =>
    clear HC37
    obtain ⟨kq, x1001_36, x421000_36, x421001_36, x421002_36, x421003_36, HA, HJ36, BK407, BK408, BK414, BK420, HI0, HK, HB⟩ := hcut
    cases kq with
    | zero => exact absurd HA.out (by simp [spec_l10Two.j1])
    | succ kj36 =>
     have H := HA.out
     clear HA
     simp only [spec_l10Two.j1] at H
     have HC54 := Aside0.mk H
     clear H
     go_upto_region 5 with (fail)
     go_cut [49] (fun v49 wc => ∃ (kq : Nat) (x49_53 : Bool) (x1001_53 : Int), v49 = .bool x49_53 ∧ Aside0 (spec_l10Two.j2 kq x49_53 s0_0 x1001_53 t409 t410 t411 t412 x421000_36 x421001_36 x421002_36 x421003_36 = some (r1, r2, r3, r4, r5, r6, r7, r8, r9)) ∧ Aside0 (kq ≤ kj36) ∧ Aside0 (wc.heap[gb407]? = some (.cells #[.int .i64 0, .int .i64 0, .int .i64 0, .int .i64 0] 30 (0, 0))) ∧ Aside0 (wc.heap[gb408]? = some (.cells #[.int .i64 0, .int .i64 0, .int .i64 0, .int .i64 0] 30 (0, 0))) ∧ Aside0 (wc.heap[gb414]? = some (.cells #[.int .i64 t409, .int .i64 t410, .int .i64 t411, .int .i64 t412] 30 (0, 0))) ∧ Aside0 (wc.heap[gb420]? = some (.cells #[.int .i64 x421000_36, .int .i64 x421001_36, .int .i64 x421002_36, .int .i64 x421003_36] 30 (0, 0))) ∧ Aside0 (IsS161 w0 wc g s0_0 x1001_53) ∧ Aside0 (KeepBut w wc g none) ∧ Aside0 (Below w0.heap.size w0 wc))
     case first =>
      have H := HC54.out
      clear HC54
      replace H := sqbi H
      obtain ⟨⟨t441, t442⟩, A55, H⟩ := H
      try dsimp only at H
      replace H := sqi H
      rcases H with ⟨c56, H⟩ | ⟨c56, H⟩
      ·have c56b0 : (t441 == 0) = false := beq_eq_false_iff_ne.mpr c56
       have c56b1 : (t441 != 0) = true := bne_iff_ne.mpr c56
       (first | rw [c56b0] | (simp only [i64_w, i32_w]; rw [c56b0]) | skip)
       have H' := Aside0.mk H
       clear H
       try go_wp2
       replace BK407 := sqdr BK407
       replace BK408 := sqdr BK408
       replace BK414 := sqdr BK414
       replace BK420 := sqdr BK420
       replace HI0 := Aside0.mk (IsS161.drew HI0.out)
       replace HK := sqdK HK
       replace HB := sqdB HB
       refine sqst 12 (fun w' => True) trivial (fun hHeld => ?_); refine with_tabW spec_l10Two.tab5 spec_l10Two.bits5 (fun HT_ HW_ => ?_)
       generalize wc.drew = w67 at BK407 BK408 BK414 BK420 HI0 HK HB hHeld ⊢
       refine sqp HT_ 0 38 ?_
       refine sqo HT_ 1 39 (fun K hK => ?_)
       refine sqG Try.func109 #[.pointer (some ⟨g, 0, none⟩), .int .i64 4] ?_
       with_reducible refine (spec_l1Rd_pick.calls kj36 g s0_0 x1001_36 4 t441 t442 w0 _ ?side1 ?side2 A55.out).mono ?_
       (case side1 => exact IsS161.mv HI0)
       (case side2 => exact sqB2 HB (IsS161.ge HI0.out))
       rintro e w68 ⟨rfl, hi, hb, hk⟩
       refine ⟨_, rfl, ?_⟩
       replace BK407 := sqkb hk BK407 NB407_0
       replace BK408 := sqkb hk BK408 NB408_0
       replace BK414 := sqkb hk BK414 NB414_0
       replace BK420 := sqkb hk BK420 NB420_0
       replace HK := Aside0.mk (KeepBut.trans (sqK HK) hk (.inl rfl))
       replace HB := Aside0.mk (hb)
       replace HI0 := Aside0.mk (hi)
       (try clear hb)
       (try clear hb2)
       (try clear hk)
       (try clear hi)
       refine hK.out _ _ trivial (fun hHeld => ?_)
       clear hK K
       refine sqnm ?_
       refine sqp HT_ 2 40 ?_
       refine sqp HT_ 3 41 ?_
       refine sqpu HT_ 4 42 ?_
       refine sqpu HT_ 5 43 ?_
       refine sqp HT_ 6 44 ?_
       refine sqp HT_ 7 45 ?_
       refine sqpu HT_ 8 46 ?_
       refine sqpu HT_ 9 47 ?_
       refine sqpu HT_ 10 48 ?_
       refine sqp HT_ 11 49 ?_
       refine done_ (done_of HT_.out (by kernel_rfl)) ?_
       try go_wp2
       go_meet
       case rel => exact ⟨_, (false), (t442), (by first | rfl | (simp; done) | (simp [*]; done)), H', ⟨by have := HJ3.out; have := HJ36.out; first | omega | exact Nat.le_refl _⟩, sqk BK407, sqk BK408, sqk BK414, sqk BK420, ⟨IsS161.mv HI0⟩, ⟨sqK HK⟩, ⟨sqB2 HB (IsS161.ge HI0.out)⟩⟩
      have c56b0 : (t441 == 0) = true := beq_iff_eq.mpr c56
      have c56b1 : (t441 != 0) = false := bne_eq_false_iff_eq.mpr c56
      clear c56
      (first | rw [c56b0] | (simp only [i64_w, i32_w]; rw [c56b0]) | skip)
      replace H := sqbi H
      obtain ⟨t443, A57, H⟩ := H
      try dsimp only at H
      rcases sqI (t443 = true) with c58 | c58
      ·replace c58 := Bool.eq_false_iff.mpr c58
       subst c58
       have H1 : (spec_l10Two.j2 kj36 false s0_0 t442 t409 t410 t411 t412 x421000_36 x421001_36 x421002_36 x421003_36) = some (r1, r2, r3, r4, r5, r6, r7, r8, r9) := by rw [if_neg (show ¬ (false = true) by decide)] at H; exact H
       clear H
       have H := H1
       clear H1
       have H' := Aside0.mk H
       clear H
       try go_wp2
       replace BK407 := sqdr BK407
       replace BK408 := sqdr BK408
       replace BK414 := sqdr BK414
       replace BK420 := sqdr BK420
       replace HI0 := Aside0.mk (IsS161.drew HI0.out)
       replace HK := sqdK HK
       replace HB := sqdB HB
       refine sqst 12 (fun w' => w'.cell? ⟨gb414, 0, none⟩ = some (.int .i64 t409) ∧ w'.cell? ⟨gb414, 1, none⟩ = some (.int .i64 t410) ∧ w'.cell? ⟨gb414, 2, none⟩ = some (.int .i64 t411) ∧ w'.cell? ⟨gb414, 3, none⟩ = some (.int .i64 t412)) sqz (fun hHeld => ?_); refine with_tabW spec_l10Two.tab5 spec_l10Two.bits5 (fun HT_ HW_ => ?_)
       generalize wc.drew = w64 at BK407 BK408 BK414 BK420 HI0 HK HB hHeld ⊢
       refine sqp HT_ 0 38 ?_
       refine sqo HT_ 1 39 (fun K hK => ?_)
       refine sqG Try.func109 #[.pointer (some ⟨g, 0, none⟩), .int .i64 4] ?_
       with_reducible refine (spec_l1Rd_pick.calls kj36 g s0_0 x1001_36 4 t441 t442 w0 _ ?side1 ?side2 A55.out).mono ?_
       (case side1 => exact IsS161.mv HI0)
       (case side2 => exact sqB2 HB (IsS161.ge HI0.out))
       rintro e w65 ⟨rfl, hi, hb, hk⟩
       refine ⟨_, rfl, ?_⟩
       replace BK407 := sqkb hk BK407 NB407_0
       replace BK408 := sqkb hk BK408 NB408_0
       replace BK414 := sqkb hk BK414 NB414_0
       replace BK420 := sqkb hk BK420 NB420_0
       replace HK := Aside0.mk (KeepBut.trans (sqK HK) hk (.inl rfl))
       replace HB := Aside0.mk (hb)
       replace HI0 := Aside0.mk (hi)
       (try clear hb)
       (try clear hb2)
       (try clear hk)
       (try clear hi)
       refine hK.out _ _ sqz (fun hHeld => ?_)
       clear hK K
       refine sqnm ?_
       refine sqp HT_ 2 40 ?_
       refine sqp HT_ 3 41 ?_
       refine sqw HT_ HW_ 4 42 hHeld ?_
       refine sqo HT_ 5 43 (fun K hK => ?_)
       refine sqG Try.func80 #[.agg #[.int .i64 t409, .int .i64 t410, .int .i64 t411, .int .i64 t412]] ?_
       with_reducible refine (spec_ValOk.calls kj36 t409 t410 t411 t412 false _ A57.out).mono ?_
       rintro e w66 ⟨rfl, hb⟩
       refine ⟨_, rfl, ?_⟩
       replace BK407 := sqb BK407 hb
       replace BK408 := sqb BK408 hb
       replace BK414 := sqb BK414 hb
       replace BK420 := sqb BK420 hb
       replace HK := Aside0.mk (KeepBut.trans (sqK HK) (KeepBut.of_below hb g none) (.inl rfl))
       replace HB := Aside0.mk (below_step (sqB2 HB (IsS161.ge HI0.out)) hb)
       replace HI0 := Aside0.mk (IsS161.below (IsS161.mv HI0) hb)
       (try clear hb)
       refine hK.out _ _ sqz (fun hHeld => ?_)
       clear hK K
       refine sqnm ?_
       refine sqp HT_ 6 44 ?_
       refine sqp HT_ 7 45 ?_
       refine sqpu HT_ 8 46 ?_
       refine sqpu HT_ 9 47 ?_
       refine sqpu HT_ 10 48 ?_
       refine sqp HT_ 11 49 ?_
       refine done_ (done_of HT_.out (by kernel_rfl)) ?_
       try go_wp2
       go_meet
       case rel => exact ⟨_, (false), (t442), (by first | rfl | (simp; done) | (simp [*]; done)), H', ⟨by have := HJ3.out; have := HJ36.out; first | omega | exact Nat.le_refl _⟩, sqk BK407, sqk BK408, sqk BK414, sqk BK420, ⟨IsS161.mv HI0⟩, ⟨sqK HK⟩, ⟨sqB2 HB (IsS161.ge HI0.out)⟩⟩
      subst c58
      have H1 : ((spec_l10None.f).bind fun bt444 => (spec_l10Two.j2 kj36 (!(t409 == bt444.1) || (!(t410 == bt444.2.1) || (!(t411 == bt444.2.2.1) || (!(t412 == bt444.2.2.2))))) s0_0 t442 t409 t410 t411 t412 x421000_36 x421001_36 x421002_36 x421003_36)) = some (r1, r2, r3, r4, r5, r6, r7, r8, r9) := by rw [if_pos rfl] at H; exact H
      clear H
      have H := H1
      clear H1
      replace H := sqbi H
      obtain ⟨⟨t444, t445, t446, t447⟩, A59, H⟩ := H
      try dsimp only at H
      have H' := Aside0.mk H
      clear H
      try go_wp2
      replace BK407 := sqdr BK407
      replace BK408 := sqdr BK408
      replace BK414 := sqdr BK414
      replace BK420 := sqdr BK420
      replace HI0 := Aside0.mk (IsS161.drew HI0.out)
      replace HK := sqdK HK
      replace HB := sqdB HB
      refine sqst 12 (fun w' => w'.cell? ⟨gb414, 0, none⟩ = some (.int .i64 t409) ∧ w'.cell? ⟨gb414, 1, none⟩ = some (.int .i64 t410) ∧ w'.cell? ⟨gb414, 2, none⟩ = some (.int .i64 t411) ∧ w'.cell? ⟨gb414, 3, none⟩ = some (.int .i64 t412)) sqz (fun hHeld => ?_); refine with_tabW spec_l10Two.tab5 spec_l10Two.bits5 (fun HT_ HW_ => ?_)
      generalize wc.drew = w60 at BK407 BK408 BK414 BK420 HI0 HK HB hHeld ⊢
      refine sqp HT_ 0 38 ?_
      refine sqo HT_ 1 39 (fun K hK => ?_)
      refine sqG Try.func109 #[.pointer (some ⟨g, 0, none⟩), .int .i64 4] ?_
      with_reducible refine (spec_l1Rd_pick.calls kj36 g s0_0 x1001_36 4 t441 t442 w0 _ ?side1 ?side2 A55.out).mono ?_
      (case side1 => exact IsS161.mv HI0)
      (case side2 => exact sqB2 HB (IsS161.ge HI0.out))
      rintro e w61 ⟨rfl, hi, hb, hk⟩
      refine ⟨_, rfl, ?_⟩
      replace BK407 := sqkb hk BK407 NB407_0
      replace BK408 := sqkb hk BK408 NB408_0
      replace BK414 := sqkb hk BK414 NB414_0
      replace BK420 := sqkb hk BK420 NB420_0
      replace HK := Aside0.mk (KeepBut.trans (sqK HK) hk (.inl rfl))
      replace HB := Aside0.mk (hb)
      replace HI0 := Aside0.mk (hi)
      (try clear hb)
      (try clear hb2)
      (try clear hk)
      (try clear hi)
      refine hK.out _ _ sqz (fun hHeld => ?_)
      clear hK K
      refine sqnm ?_
      refine sqp HT_ 2 40 ?_
      refine sqp HT_ 3 41 ?_
      refine sqw HT_ HW_ 4 42 hHeld ?_
      refine sqo HT_ 5 43 (fun K hK => ?_)
      refine sqG Try.func80 #[.agg #[.int .i64 t409, .int .i64 t410, .int .i64 t411, .int .i64 t412]] ?_
      with_reducible refine (spec_ValOk.calls kj36 t409 t410 t411 t412 true _ A57.out).mono ?_
      rintro e w62 ⟨rfl, hb⟩
      refine ⟨_, rfl, ?_⟩
      replace BK407 := sqb BK407 hb
      replace BK408 := sqb BK408 hb
      replace BK414 := sqb BK414 hb
      replace BK420 := sqb BK420 hb
      replace HK := Aside0.mk (KeepBut.trans (sqK HK) (KeepBut.of_below hb g none) (.inl rfl))
      replace HB := Aside0.mk (below_step (sqB2 HB (IsS161.ge HI0.out)) hb)
      replace HI0 := Aside0.mk (IsS161.below (IsS161.mv HI0) hb)
      (try clear hb)
      refine hK.out _ _ sqz (fun hHeld => ?_)
      clear hK K
      refine sqnm ?_
      refine sqp HT_ 6 44 ?_
      refine sqp HT_ 7 45 ?_
      refine sqw HT_ HW_ 8 46 hHeld ?_
      refine sqo HT_ 9 47 (fun K hK => ?_)
      refine sqG Try.func100 #[] ?_
      with_reducible refine (spec_l10None.calls  t444 t445 t446 t447 _ A59.out).mono ?_
      rintro e w63 ⟨rfl, hb⟩
      refine ⟨_, rfl, ?_⟩
      replace BK407 := sqb BK407 hb
      replace BK408 := sqb BK408 hb
      replace BK414 := sqb BK414 hb
      replace BK420 := sqb BK420 hb
      replace HK := Aside0.mk (KeepBut.trans (sqK HK) (KeepBut.of_below hb g none) (.inl rfl))
      replace HB := Aside0.mk (below_step (sqB2 HB (IsS161.ge HI0.out)) hb)
      replace HI0 := Aside0.mk (IsS161.below (IsS161.mv HI0) hb)
      (try clear hb)
      refine hK.out _ _ sqz (fun hHeld => ?_)
      clear hK K
      refine sqnm ?_
      refine sqp HT_ 10 48 ?_
      refine sqp HT_ 11 49 ?_
      refine done_ (done_of HT_.out (by kernel_rfl)) ?_
      try go_wp2
      go_meet
      case rel => exact ⟨_, ((!(t409 == t444) || (!(t410 == t445) || (!(t411 == t446) || (!(t412 == t447)))))), (t442), (by first | rfl | (simp; done) | (simp [*]; done)), H', ⟨by have := HJ3.out; have := HJ36.out; first | omega | exact Nat.le_refl _⟩, sqk BK407, sqk BK408, sqk BK414, sqk BK420, ⟨IsS161.mv HI0⟩, ⟨sqK HK⟩, ⟨sqB2 HB (IsS161.ge HI0.out)⟩⟩
     case rest =>
      clear HC54
      obtain ⟨kq, x49_53, x1001_53, rfl, HA, HJ53, BK407, BK408, BK414, BK420, HI0, HK, HB⟩ := hcut
      cases kq with
      | zero => exact absurd HA.out (by simp [spec_l10Two.j2])
      | succ kj53 =>
       have H := HA.out
       clear HA
       simp only [spec_l10Two.j2] at H
       rcases sqI (x49_53 = true) with c69 | c69
       ·replace c69 := Bool.eq_false_iff.mpr c69
        subst c69
        have H1 : (some (t409, t410, t411, t412, x421000_36, x421001_36, x421002_36, x421003_36, x1001_53)) = some (r1, r2, r3, r4, r5, r6, r7, r8, r9) := by rw [if_neg (show ¬ (false = true) by decide)] at H; exact H
        clear H
        have H := H1
        clear H1
        simp only [Option.some.injEq, Prod.mk.injEq] at H
        obtain ⟨rfl, rfl, rfl, rfl, rfl, rfl, rfl, rfl, rfl⟩ := H
        try go_wp2
        replace BK407 := sqdr BK407
        replace BK408 := sqdr BK408
        replace BK414 := sqdr BK414
        replace BK420 := sqdr BK420
        replace HI0 := Aside0.mk (IsS161.drew HI0.out)
        replace HK := sqdK HK
        replace HB := sqdB HB
        refine sqst 4 (fun w' => w'.cell? ⟨gb414, 0, none⟩ = some (.int .i64 t409) ∧ w'.cell? ⟨gb414, 1, none⟩ = some (.int .i64 t410) ∧ w'.cell? ⟨gb414, 2, none⟩ = some (.int .i64 t411) ∧ w'.cell? ⟨gb414, 3, none⟩ = some (.int .i64 t412) ∧ w'.cell? ⟨gb420, 0, none⟩ = some (.int .i64 x421000_36) ∧ w'.cell? ⟨gb420, 1, none⟩ = some (.int .i64 x421001_36) ∧ w'.cell? ⟨gb420, 2, none⟩ = some (.int .i64 x421002_36) ∧ w'.cell? ⟨gb420, 3, none⟩ = some (.int .i64 x421003_36)) sqz (fun hHeld => ?_)
        generalize wc.drew = w95 at BK407 BK408 BK414 BK420 HI0 HK HB hHeld ⊢
        refine take_ (i := 0) (N := some 64) (v := ?_) (a' := ?_) #[true, false, false, false] rfl rfl (by kernel_rfl) (fun _ _ _ h => h) (Or.inl ⟨by rfl, ?_⟩) hHeld ?_ ?_
        rotate_left
        ·rintro w' ⟨s0, s1, s2, s3, s4, s5, s6, s7⟩
         go_simp
         with_reducible rfl
        rotate_left
        ·simp only [Act.put, List.setIfInBounds_toArray, List.set_cons_zero, List.set_cons_succ, i64_w, i32_w]
         rfl
        refine take_ (i := 1) (N := some 65) (v := ?_) (a' := ?_) #[true, true, false, false] rfl rfl (by kernel_rfl) (fun _ _ _ h => h) (Or.inl ⟨by rfl, ?_⟩) hHeld ?_ ?_
        rotate_left
        ·rintro w' ⟨s0, s1, s2, s3, s4, s5, s6, s7⟩
         go_simp
         with_reducible rfl
        rotate_left
        ·simp only [Act.put, List.setIfInBounds_toArray, List.set_cons_zero, List.set_cons_succ, i64_w, i32_w]
         rfl
        refine one_ (i := 2) (N := none) #[true, true, true, false] rfl rfl (by kernel_rfl) (by decide) (fun K hK => ?_)
        have hs96 : w95.cell? ⟨gb407, 0, none⟩ = some (.int .i64 0) := (blk_cell BK407.out 0).trans rfl
        have hfs96 := blk_frozen BK407.out 0
        have hns96_1 := NB408_407.out
        have hns96_2 := NB414_407.out
        have hns96_3 := NB420_407.out
        have hms96_1 := NB407_408.out
        have hms96_2 := NB407_414.out
        have hms96_3 := NB407_420.out
        have hs97 : w95.cell? ⟨gb407, 1, none⟩ = some (.int .i64 0) := (blk_cell BK407.out 1).trans rfl
        have hfs97 := blk_frozen BK407.out 1
        have hns97_1 := NB408_407.out
        have hns97_2 := NB414_407.out
        have hns97_3 := NB420_407.out
        have hms97_1 := NB407_408.out
        have hms97_2 := NB407_414.out
        have hms97_3 := NB407_420.out
        have hs98 : w95.cell? ⟨gb407, 2, none⟩ = some (.int .i64 0) := (blk_cell BK407.out 2).trans rfl
        have hfs98 := blk_frozen BK407.out 2
        have hns98_1 := NB408_407.out
        have hns98_2 := NB414_407.out
        have hns98_3 := NB420_407.out
        have hms98_1 := NB407_408.out
        have hms98_2 := NB407_414.out
        have hms98_3 := NB407_420.out
        have hs99 : w95.cell? ⟨gb407, 3, none⟩ = some (.int .i64 0) := (blk_cell BK407.out 3).trans rfl
        have hfs99 := blk_frozen BK407.out 3
        have hns99_1 := NB408_407.out
        have hns99_2 := NB414_407.out
        have hns99_3 := NB420_407.out
        have hms99_1 := NB407_408.out
        have hms99_2 := NB407_414.out
        have hms99_3 := NB407_420.out
        refine skip_ (w1 := ?_) (by rfl) rfl ?_ ?_
        rotate_left
        ·go_simp
         rfl
        refine hK.out _ _ ⟨(sqfa NB414_407 ((sqfa NB414_407 ((sqfa NB414_407 ((sqfa NB414_407 (hHeld.1)))))))), (sqfa NB414_407 ((sqfa NB414_407 ((sqfa NB414_407 ((sqfa NB414_407 (hHeld.2.1)))))))), (sqfa NB414_407 ((sqfa NB414_407 ((sqfa NB414_407 ((sqfa NB414_407 (hHeld.2.2.1)))))))), (sqfa NB414_407 ((sqfa NB414_407 ((sqfa NB414_407 ((sqfa NB414_407 (hHeld.2.2.2.1)))))))), (sqfa NB420_407 ((sqfa NB420_407 ((sqfa NB420_407 ((sqfa NB420_407 (hHeld.2.2.2.2.1)))))))), (sqfa NB420_407 ((sqfa NB420_407 ((sqfa NB420_407 ((sqfa NB420_407 (hHeld.2.2.2.2.2.1)))))))), (sqfa NB420_407 ((sqfa NB420_407 ((sqfa NB420_407 ((sqfa NB420_407 (hHeld.2.2.2.2.2.2.1)))))))), (sqfa NB420_407 ((sqfa NB420_407 ((sqfa NB420_407 ((sqfa NB420_407 (hHeld.2.2.2.2.2.2.2))))))))⟩ (fun hHeld => ?_)
        clear hK K
        refine one_ (i := 3) (N := none) #[true, true, true, true] rfl rfl (by kernel_rfl) (by decide) (fun K hK => ?_)
        have hs100 : w95.cell? ⟨gb408, 0, none⟩ = some (.int .i64 0) := (blk_cell BK408.out 0).trans rfl
        have hfs100 := blk_frozen BK408.out 0
        have hns100_0 := NB407_408.out
        have hns100_2 := NB414_408.out
        have hns100_3 := NB420_408.out
        have hms100_0 := NB408_407.out
        have hms100_2 := NB408_414.out
        have hms100_3 := NB408_420.out
        have hs101 : w95.cell? ⟨gb408, 1, none⟩ = some (.int .i64 0) := (blk_cell BK408.out 1).trans rfl
        have hfs101 := blk_frozen BK408.out 1
        have hns101_0 := NB407_408.out
        have hns101_2 := NB414_408.out
        have hns101_3 := NB420_408.out
        have hms101_0 := NB408_407.out
        have hms101_2 := NB408_414.out
        have hms101_3 := NB408_420.out
        have hs102 : w95.cell? ⟨gb408, 2, none⟩ = some (.int .i64 0) := (blk_cell BK408.out 2).trans rfl
        have hfs102 := blk_frozen BK408.out 2
        have hns102_0 := NB407_408.out
        have hns102_2 := NB414_408.out
        have hns102_3 := NB420_408.out
        have hms102_0 := NB408_407.out
        have hms102_2 := NB408_414.out
        have hms102_3 := NB408_420.out
        have hs103 : w95.cell? ⟨gb408, 3, none⟩ = some (.int .i64 0) := (blk_cell BK408.out 3).trans rfl
        have hfs103 := blk_frozen BK408.out 3
        have hns103_0 := NB407_408.out
        have hns103_2 := NB414_408.out
        have hns103_3 := NB420_408.out
        have hms103_0 := NB408_407.out
        have hms103_2 := NB408_414.out
        have hms103_3 := NB408_420.out
        refine skip_ (w1 := ?_) (by rfl) rfl ?_ ?_
        rotate_left
        ·go_simp
         rfl
        refine hK.out _ _ ⟨(sqfa NB414_408 ((sqfa NB414_408 ((sqfa NB414_408 ((sqfa NB414_408 (hHeld.1)))))))), (sqfa NB414_408 ((sqfa NB414_408 ((sqfa NB414_408 ((sqfa NB414_408 (hHeld.2.1)))))))), (sqfa NB414_408 ((sqfa NB414_408 ((sqfa NB414_408 ((sqfa NB414_408 (hHeld.2.2.1)))))))), (sqfa NB414_408 ((sqfa NB414_408 ((sqfa NB414_408 ((sqfa NB414_408 (hHeld.2.2.2.1)))))))), (sqfa NB420_408 ((sqfa NB420_408 ((sqfa NB420_408 ((sqfa NB420_408 (hHeld.2.2.2.2.1)))))))), (sqfa NB420_408 ((sqfa NB420_408 ((sqfa NB420_408 ((sqfa NB420_408 (hHeld.2.2.2.2.2.1)))))))), (sqfa NB420_408 ((sqfa NB420_408 ((sqfa NB420_408 ((sqfa NB420_408 (hHeld.2.2.2.2.2.2.1)))))))), (sqfa NB420_408 ((sqfa NB420_408 ((sqfa NB420_408 ((sqfa NB420_408 (hHeld.2.2.2.2.2.2.2))))))))⟩ (fun hHeld => ?_)
        clear hK K
        refine done_ (by kernel_rfl) ?_
        try go_wp2
        refine bodyPost_ret (results_cc rfl _ _ gb407 gb408 30 30 #[.int .i64 t409, .int .i64 t410, .int .i64 t411, .int .i64 t412] #[.int .i64 x421000_36, .int .i64 x421001_36, .int .i64 x421002_36, .int .i64 x421003_36] (0, 0) (0, 0) _ _ rfl (sqP BK407) Try.underlying30 rfl (by kernel_rfl) rfl (sqP BK408) Try.underlying30 rfl (by kernel_rfl)) rfl ?_
        exact ⟨by first | rfl | (simp [errW_none, errW_some] <;> rfl) | (simp [*, errW_none, errW_some] <;> rfl), by repeat (first | (with_reducible first | exact HI0.out | apply IsS161.alloc | apply IsS161.drewN | apply IsS161.drew | apply IsS161.set_1 | refine IsS161.far ?_ NB0_407.out _ | refine IsS161.far ?_ NB0_408.out _ | refine IsS161.far ?_ NB0_414.out _ | refine IsS161.far ?_ NB0_420.out _) | exact HI0.out), by repeat (first | (with_reducible first | exact HB.out | apply below_alloc | apply pw_below_drewN | apply below_drew1 | refine below_set ?_ (IsS161.ge HI0.out) | refine below_set ?_ GE407.out | refine below_set ?_ GE408.out | refine below_set ?_ GE414.out | refine below_set ?_ GE420.out) | exact HB.out), sqK HK⟩
       subst c69
       have H1 : ((spec_l1Rd_pick.f kj53 s0_0 x1001_53 9).bind fun bt448 => ((spec_l1Rd_pick.f kj53 s0_0 bt448.2 9).bind fun bt450 => ((spec_l8Cut.f (wrap64 (t409 - bt448.1)) (wrap64 (t410 + bt450.1))).bind fun bt452 => ((spec_l10Rest.f t409 t410 t411 t412).bind fun bt454 => ((spec_ValMake.f kj53 bt452.1 bt452.2 bt454.1 bt454.2).bind fun bt456 => (some (t409, t410, t411, t412, bt456.1, bt456.2.1, bt456.2.2.1, bt456.2.2.2, bt450.2))))))) = some (r1, r2, r3, r4, r5, r6, r7, r8, r9) := by rw [if_pos rfl] at H; exact H
       clear H
       have H := H1
       clear H1
       replace H := sqbi H
       obtain ⟨⟨t448, t449⟩, A70, H⟩ := H
       try dsimp only at H
       replace H := sqbi H
       obtain ⟨⟨t450, t451⟩, A71, H⟩ := H
       try dsimp only at H
       replace H := sqbi H
       obtain ⟨⟨t452, t453⟩, A72, H⟩ := H
       try dsimp only at H
       replace H := sqbi H
       obtain ⟨⟨t454, t455⟩, A73, H⟩ := H
       try dsimp only at H
       replace H := sqbi H
       obtain ⟨⟨t456, t457, t458, t459⟩, A74, H⟩ := H
       try dsimp only at H
       simp only [Option.some.injEq, Prod.mk.injEq] at H
       obtain ⟨rfl, rfl, rfl, rfl, rfl, rfl, rfl, rfl, rfl⟩ := H
       try go_wp2
       replace BK407 := sqdr BK407
       replace BK408 := sqdr BK408
       replace BK414 := sqdr BK414
       replace BK420 := sqdr BK420
       replace HI0 := Aside0.mk (IsS161.drew HI0.out)
       replace HK := sqdK HK
       replace HB := sqdB HB
       refine sqst 15 (fun w' => w'.cell? ⟨gb414, 0, none⟩ = some (.int .i64 t409) ∧ w'.cell? ⟨gb414, 1, none⟩ = some (.int .i64 t410) ∧ w'.cell? ⟨gb414, 2, none⟩ = some (.int .i64 t411) ∧ w'.cell? ⟨gb414, 3, none⟩ = some (.int .i64 t412)) sqz (fun hHeld => ?_); refine with_tabW spec_l10Two.tab6 spec_l10Two.bits6 (fun HT_ HW_ => ?_)
       generalize wc.drew = w75 at BK407 BK408 BK414 BK420 HI0 HK HB hHeld ⊢
       refine sqp HT_ 0 50 ?_
       refine sqp HT_ 2 52 ?_
       refine sqp HT_ 5 55 ?_
       refine sqp HT_ 7 57 ?_
       refine sqw HT_ HW_ 1 51 hHeld ?_
       refine sqw HT_ HW_ 6 56 hHeld ?_
       refine sqw HT_ HW_ 11 61 hHeld ?_
       refine sqo HT_ 3 53 (fun K hK => ?_)
       refine sqG Try.func109 #[.pointer (some ⟨g, 0, none⟩), .int .i64 9] ?_
       with_reducible refine (spec_l1Rd_pick.calls kj53 g s0_0 x1001_53 9 t448 t449 w0 _ ?side1 ?side2 A70.out).mono ?_
       (case side1 => exact IsS161.mv HI0)
       (case side2 => exact sqB2 HB (IsS161.ge HI0.out))
       rintro e w76 ⟨rfl, hi, hb, hk⟩
       refine ⟨_, rfl, ?_⟩
       replace BK407 := sqkb hk BK407 NB407_0
       replace BK408 := sqkb hk BK408 NB408_0
       replace BK414 := sqkb hk BK414 NB414_0
       replace BK420 := sqkb hk BK420 NB420_0
       replace HK := Aside0.mk (KeepBut.trans (sqK HK) hk (.inl rfl))
       replace HB := Aside0.mk (hb)
       replace HI0 := Aside0.mk (hi)
       (try clear hb)
       (try clear hb2)
       (try clear hk)
       (try clear hi)
       refine hK.out _ _ sqz (fun hHeld => ?_)
       clear hK K
       refine sqnm ?_
       refine sqp HT_ 4 54 ?_
       refine sqo HT_ 8 58 (fun K hK => ?_)
       refine sqG Try.func109 #[.pointer (some ⟨g, 0, none⟩), .int .i64 9] ?_
       with_reducible refine (spec_l1Rd_pick.calls kj53 g s0_0 t449 9 t450 t451 w0 _ ?side1 ?side2 A71.out).mono ?_
       (case side1 => exact IsS161.mv HI0)
       (case side2 => exact sqB2 HB (IsS161.ge HI0.out))
       rintro e w77 ⟨rfl, hi, hb, hk⟩
       refine ⟨_, rfl, ?_⟩
       replace BK407 := sqkb hk BK407 NB407_0
       replace BK408 := sqkb hk BK408 NB408_0
       replace BK414 := sqkb hk BK414 NB414_0
       replace BK420 := sqkb hk BK420 NB420_0
       replace HK := Aside0.mk (KeepBut.trans (sqK HK) hk (.inl rfl))
       replace HB := Aside0.mk (hb)
       replace HI0 := Aside0.mk (hi)
       (try clear hb)
       (try clear hb2)
       (try clear hk)
       (try clear hi)
       refine hK.out _ _ sqz (fun hHeld => ?_)
       clear hK K
       refine sqnm ?_
       refine sqp HT_ 9 59 ?_
       refine sqo HT_ 10 60 (fun K hK => ?_)
       refine sqG Try.func133 #[.int .i64 (wrap64 (t409 - t448)), .int .i64 (wrap64 (t410 + t450))] ?_
       with_reducible refine (spec_l8Cut.calls (wrap64 (t409 - t448)) (wrap64 (t410 + t450)) t452 t453 _ A72.out).mono ?_
       rintro e w78 ⟨rfl, hb⟩
       refine ⟨_, rfl, ?_⟩
       replace BK407 := sqb BK407 hb
       replace BK408 := sqb BK408 hb
       replace BK414 := sqb BK414 hb
       replace BK420 := sqb BK420 hb
       replace HK := Aside0.mk (KeepBut.trans (sqK HK) (KeepBut.of_below hb g none) (.inl rfl))
       replace HB := Aside0.mk (below_step (sqB2 HB (IsS161.ge HI0.out)) hb)
       replace HI0 := Aside0.mk (IsS161.below (IsS161.mv HI0) hb)
       (try clear hb)
       refine hK.out _ _ sqz (fun hHeld => ?_)
       clear hK K
       refine sqnm ?_
       refine sqo HT_ 12 62 (fun K hK => ?_)
       refine sqG Try.func181 #[.agg #[.int .i64 t409, .int .i64 t410, .int .i64 t411, .int .i64 t412]] ?_
       with_reducible refine (spec_l10Rest.calls t409 t410 t411 t412 t454 t455 _ A73.out).mono ?_
       rintro e w79 ⟨rfl, hb⟩
       refine ⟨_, rfl, ?_⟩
       replace BK407 := sqb BK407 hb
       replace BK408 := sqb BK408 hb
       replace BK414 := sqb BK414 hb
       replace BK420 := sqb BK420 hb
       replace HK := Aside0.mk (KeepBut.trans (sqK HK) (KeepBut.of_below hb g none) (.inl rfl))
       replace HB := Aside0.mk (below_step (sqB2 HB (IsS161.ge HI0.out)) hb)
       replace HI0 := Aside0.mk (IsS161.below (IsS161.mv HI0) hb)
       (try clear hb)
       refine hK.out _ _ sqz (fun hHeld => ?_)
       clear hK K
       refine sqnm ?_
       refine sqo HT_ 13 63 (fun K hK => ?_)
       refine sqG Try.func17 #[.agg #[.int .i64 t452, .int .i64 t453], .agg #[.int .i64 t454, .int .i64 t455]] ?_
       with_reducible refine (spec_ValMake.calls kj53 t452 t453 t454 t455 t456 t457 t458 t459 _ A74.out).mono ?_
       rintro e w80 ⟨rfl, hb⟩
       refine ⟨_, rfl, ?_⟩
       replace BK407 := sqb BK407 hb
       replace BK408 := sqb BK408 hb
       replace BK414 := sqb BK414 hb
       replace BK420 := sqb BK420 hb
       replace HK := Aside0.mk (KeepBut.trans (sqK HK) (KeepBut.of_below hb g none) (.inl rfl))
       replace HB := Aside0.mk (below_step (sqB2 HB (IsS161.ge HI0.out)) hb)
       replace HI0 := Aside0.mk (IsS161.below (IsS161.mv HI0) hb)
       (try clear hb)
       refine hK.out _ _ sqz (fun hHeld => ?_)
       clear hK K
       refine sqnm ?_
       refine one_ (i := 14) (N := none) #[true, true, true, true, true, true, true, true, true, true, true, true, true, true, true] rfl rfl (one_of HT_.out (by kernel_rfl)) (by decide) (fun K hK => ?_)
       have hs81 : w80.cell? ⟨gb420, 0, none⟩ = some (.int .i64 x421000_36) := (blk_cell BK420.out 0).trans rfl
       have hfs81 := blk_frozen BK420.out 0
       have hns81_0 := NB407_420.out
       have hns81_1 := NB408_420.out
       have hns81_2 := NB414_420.out
       have hms81_0 := NB420_407.out
       have hms81_1 := NB420_408.out
       have hms81_2 := NB420_414.out
       have hs82 : w80.cell? ⟨gb420, 1, none⟩ = some (.int .i64 x421001_36) := (blk_cell BK420.out 1).trans rfl
       have hfs82 := blk_frozen BK420.out 1
       have hns82_0 := NB407_420.out
       have hns82_1 := NB408_420.out
       have hns82_2 := NB414_420.out
       have hms82_0 := NB420_407.out
       have hms82_1 := NB420_408.out
       have hms82_2 := NB420_414.out
       have hs83 : w80.cell? ⟨gb420, 2, none⟩ = some (.int .i64 x421002_36) := (blk_cell BK420.out 2).trans rfl
       have hfs83 := blk_frozen BK420.out 2
       have hns83_0 := NB407_420.out
       have hns83_1 := NB408_420.out
       have hns83_2 := NB414_420.out
       have hms83_0 := NB420_407.out
       have hms83_1 := NB420_408.out
       have hms83_2 := NB420_414.out
       have hs84 : w80.cell? ⟨gb420, 3, none⟩ = some (.int .i64 x421003_36) := (blk_cell BK420.out 3).trans rfl
       have hfs84 := blk_frozen BK420.out 3
       have hns84_0 := NB407_420.out
       have hns84_1 := NB408_420.out
       have hns84_2 := NB414_420.out
       have hms84_0 := NB420_407.out
       have hms84_1 := NB420_408.out
       have hms84_2 := NB420_414.out
       refine skip_ (w1 := ?_) (by rfl) rfl ?_ ?_
       rotate_left
       ·go_simp
        rfl
       refine hK.out _ _ ⟨(sqfa NB414_420 ((sqfa NB414_420 ((sqfa NB414_420 ((sqfa NB414_420 (hHeld.1)))))))), (sqfa NB414_420 ((sqfa NB414_420 ((sqfa NB414_420 ((sqfa NB414_420 (hHeld.2.1)))))))), (sqfa NB414_420 ((sqfa NB414_420 ((sqfa NB414_420 ((sqfa NB414_420 (hHeld.2.2.1)))))))), (sqfa NB414_420 ((sqfa NB414_420 ((sqfa NB414_420 ((sqfa NB414_420 (hHeld.2.2.2))))))))⟩ (fun hHeld => ?_)
       clear hK K
       refine done_ (done_of HT_.out (by kernel_rfl)) ?_
       try go_wp2
       obtain ⟨w85, hw_⟩ : ∃ w_, w_ = ((((w80.setCell ⟨gb420, 0, none⟩ (.int .i64 t456)).setCell ⟨gb420, 1, none⟩ (.int .i64 t457)).setCell ⟨gb420, 2, none⟩ (.int .i64 t458)).setCell ⟨gb420, 3, none⟩ (.int .i64 t459)) := ⟨_, rfl⟩
       replace BK407 := sqTe hw_ BK407
       replace BK408 := sqTe hw_ BK408
       replace BK414 := sqTe hw_ BK414
       replace BK420 : Aside0 (w85.heap[gb420]? = some (.cells #[.int .i64 t456, .int .i64 t457, .int .i64 t458, .int .i64 t459] 30 (0, 0))) := by rw [hw_]; exact ⟨sqP BK420⟩
       replace HK : Aside0 (KeepBut w w85 g none) := by rw [hw_]; exact ⟨sqK HK⟩
       replace HB : Aside0 (Below w0.heap.size w0 w85) := by rw [hw_]; exact ⟨sqB2 HB (IsS161.ge HI0.out)⟩
       replace HI0 : Aside0 (IsS161 w0 w85 g s0_0 t451) := by rw [hw_]; exact ⟨IsS161.mv HI0⟩
       rw [← hw_]
       clear hw_
       replace BK407 := sqdr BK407
       replace BK408 := sqdr BK408
       replace BK414 := sqdr BK414
       replace BK420 := sqdr BK420
       replace HI0 := Aside0.mk (IsS161.drew HI0.out)
       replace HK := sqdK HK
       replace HB := sqdB HB
       refine sqst 4 (fun w' => w'.cell? ⟨gb414, 0, none⟩ = some (.int .i64 t409) ∧ w'.cell? ⟨gb414, 1, none⟩ = some (.int .i64 t410) ∧ w'.cell? ⟨gb414, 2, none⟩ = some (.int .i64 t411) ∧ w'.cell? ⟨gb414, 3, none⟩ = some (.int .i64 t412) ∧ w'.cell? ⟨gb420, 0, none⟩ = some (.int .i64 t456) ∧ w'.cell? ⟨gb420, 1, none⟩ = some (.int .i64 t457) ∧ w'.cell? ⟨gb420, 2, none⟩ = some (.int .i64 t458) ∧ w'.cell? ⟨gb420, 3, none⟩ = some (.int .i64 t459)) sqz (fun hHeld => ?_)
       generalize w85.drew = w86 at BK407 BK408 BK414 BK420 HI0 HK HB hHeld ⊢
       refine take_ (i := 0) (N := some 64) (v := ?_) (a' := ?_) #[true, false, false, false] rfl rfl (by kernel_rfl) (fun _ _ _ h => h) (Or.inl ⟨by rfl, ?_⟩) hHeld ?_ ?_
       rotate_left
       ·rintro w' ⟨s0, s1, s2, s3, s4, s5, s6, s7⟩
        go_simp
        with_reducible rfl
       rotate_left
       ·simp only [Act.put, List.setIfInBounds_toArray, List.set_cons_zero, List.set_cons_succ, i64_w, i32_w]
        rfl
       refine take_ (i := 1) (N := some 65) (v := ?_) (a' := ?_) #[true, true, false, false] rfl rfl (by kernel_rfl) (fun _ _ _ h => h) (Or.inl ⟨by rfl, ?_⟩) hHeld ?_ ?_
       rotate_left
       ·rintro w' ⟨s0, s1, s2, s3, s4, s5, s6, s7⟩
        go_simp
        with_reducible rfl
       rotate_left
       ·simp only [Act.put, List.setIfInBounds_toArray, List.set_cons_zero, List.set_cons_succ, i64_w, i32_w]
        rfl
       refine one_ (i := 2) (N := none) #[true, true, true, false] rfl rfl (by kernel_rfl) (by decide) (fun K hK => ?_)
       have hs87 : w86.cell? ⟨gb407, 0, none⟩ = some (.int .i64 0) := (blk_cell BK407.out 0).trans rfl
       have hfs87 := blk_frozen BK407.out 0
       have hns87_1 := NB408_407.out
       have hns87_2 := NB414_407.out
       have hns87_3 := NB420_407.out
       have hms87_1 := NB407_408.out
       have hms87_2 := NB407_414.out
       have hms87_3 := NB407_420.out
       have hs88 : w86.cell? ⟨gb407, 1, none⟩ = some (.int .i64 0) := (blk_cell BK407.out 1).trans rfl
       have hfs88 := blk_frozen BK407.out 1
       have hns88_1 := NB408_407.out
       have hns88_2 := NB414_407.out
       have hns88_3 := NB420_407.out
       have hms88_1 := NB407_408.out
       have hms88_2 := NB407_414.out
       have hms88_3 := NB407_420.out
       have hs89 : w86.cell? ⟨gb407, 2, none⟩ = some (.int .i64 0) := (blk_cell BK407.out 2).trans rfl
       have hfs89 := blk_frozen BK407.out 2
       have hns89_1 := NB408_407.out
       have hns89_2 := NB414_407.out
       have hns89_3 := NB420_407.out
       have hms89_1 := NB407_408.out
       have hms89_2 := NB407_414.out
       have hms89_3 := NB407_420.out
       have hs90 : w86.cell? ⟨gb407, 3, none⟩ = some (.int .i64 0) := (blk_cell BK407.out 3).trans rfl
       have hfs90 := blk_frozen BK407.out 3
       have hns90_1 := NB408_407.out
       have hns90_2 := NB414_407.out
       have hns90_3 := NB420_407.out
       have hms90_1 := NB407_408.out
       have hms90_2 := NB407_414.out
       have hms90_3 := NB407_420.out
       refine skip_ (w1 := ?_) (by rfl) rfl ?_ ?_
       rotate_left
       ·go_simp
        rfl
       refine hK.out _ _ ⟨(sqfa NB414_407 ((sqfa NB414_407 ((sqfa NB414_407 ((sqfa NB414_407 (hHeld.1)))))))), (sqfa NB414_407 ((sqfa NB414_407 ((sqfa NB414_407 ((sqfa NB414_407 (hHeld.2.1)))))))), (sqfa NB414_407 ((sqfa NB414_407 ((sqfa NB414_407 ((sqfa NB414_407 (hHeld.2.2.1)))))))), (sqfa NB414_407 ((sqfa NB414_407 ((sqfa NB414_407 ((sqfa NB414_407 (hHeld.2.2.2.1)))))))), (sqfa NB420_407 ((sqfa NB420_407 ((sqfa NB420_407 ((sqfa NB420_407 (hHeld.2.2.2.2.1)))))))), (sqfa NB420_407 ((sqfa NB420_407 ((sqfa NB420_407 ((sqfa NB420_407 (hHeld.2.2.2.2.2.1)))))))), (sqfa NB420_407 ((sqfa NB420_407 ((sqfa NB420_407 ((sqfa NB420_407 (hHeld.2.2.2.2.2.2.1)))))))), (sqfa NB420_407 ((sqfa NB420_407 ((sqfa NB420_407 ((sqfa NB420_407 (hHeld.2.2.2.2.2.2.2))))))))⟩ (fun hHeld => ?_)
       clear hK K
       refine one_ (i := 3) (N := none) #[true, true, true, true] rfl rfl (by kernel_rfl) (by decide) (fun K hK => ?_)
       have hs91 : w86.cell? ⟨gb408, 0, none⟩ = some (.int .i64 0) := (blk_cell BK408.out 0).trans rfl
       have hfs91 := blk_frozen BK408.out 0
       have hns91_0 := NB407_408.out
       have hns91_2 := NB414_408.out
       have hns91_3 := NB420_408.out
       have hms91_0 := NB408_407.out
       have hms91_2 := NB408_414.out
       have hms91_3 := NB408_420.out
       have hs92 : w86.cell? ⟨gb408, 1, none⟩ = some (.int .i64 0) := (blk_cell BK408.out 1).trans rfl
       have hfs92 := blk_frozen BK408.out 1
       have hns92_0 := NB407_408.out
       have hns92_2 := NB414_408.out
       have hns92_3 := NB420_408.out
       have hms92_0 := NB408_407.out
       have hms92_2 := NB408_414.out
       have hms92_3 := NB408_420.out
       have hs93 : w86.cell? ⟨gb408, 2, none⟩ = some (.int .i64 0) := (blk_cell BK408.out 2).trans rfl
       have hfs93 := blk_frozen BK408.out 2
       have hns93_0 := NB407_408.out
       have hns93_2 := NB414_408.out
       have hns93_3 := NB420_408.out
       have hms93_0 := NB408_407.out
       have hms93_2 := NB408_414.out
       have hms93_3 := NB408_420.out
       have hs94 : w86.cell? ⟨gb408, 3, none⟩ = some (.int .i64 0) := (blk_cell BK408.out 3).trans rfl
       have hfs94 := blk_frozen BK408.out 3
       have hns94_0 := NB407_408.out
       have hns94_2 := NB414_408.out
       have hns94_3 := NB420_408.out
       have hms94_0 := NB408_407.out
       have hms94_2 := NB408_414.out
       have hms94_3 := NB408_420.out
       refine skip_ (w1 := ?_) (by rfl) rfl ?_ ?_
       rotate_left
       ·go_simp
        rfl
       refine hK.out _ _ ⟨(sqfa NB414_408 ((sqfa NB414_408 ((sqfa NB414_408 ((sqfa NB414_408 (hHeld.1)))))))), (sqfa NB414_408 ((sqfa NB414_408 ((sqfa NB414_408 ((sqfa NB414_408 (hHeld.2.1)))))))), (sqfa NB414_408 ((sqfa NB414_408 ((sqfa NB414_408 ((sqfa NB414_408 (hHeld.2.2.1)))))))), (sqfa NB414_408 ((sqfa NB414_408 ((sqfa NB414_408 ((sqfa NB414_408 (hHeld.2.2.2.1)))))))), (sqfa NB420_408 ((sqfa NB420_408 ((sqfa NB420_408 ((sqfa NB420_408 (hHeld.2.2.2.2.1)))))))), (sqfa NB420_408 ((sqfa NB420_408 ((sqfa NB420_408 ((sqfa NB420_408 (hHeld.2.2.2.2.2.1)))))))), (sqfa NB420_408 ((sqfa NB420_408 ((sqfa NB420_408 ((sqfa NB420_408 (hHeld.2.2.2.2.2.2.1)))))))), (sqfa NB420_408 ((sqfa NB420_408 ((sqfa NB420_408 ((sqfa NB420_408 (hHeld.2.2.2.2.2.2.2))))))))⟩ (fun hHeld => ?_)
       clear hK K
       refine done_ (by kernel_rfl) ?_
       try go_wp2
       refine bodyPost_ret (results_cc rfl _ _ gb407 gb408 30 30 #[.int .i64 t409, .int .i64 t410, .int .i64 t411, .int .i64 t412] #[.int .i64 t456, .int .i64 t457, .int .i64 t458, .int .i64 t459] (0, 0) (0, 0) _ _ rfl (sqP BK407) Try.underlying30 rfl (by kernel_rfl) rfl (sqP BK408) Try.underlying30 rfl (by kernel_rfl)) rfl ?_
       exact ⟨by first | rfl | (simp [errW_none, errW_some] <;> rfl) | (simp [*, errW_none, errW_some] <;> rfl), by repeat (first | (with_reducible first | exact HI0.out | apply IsS161.alloc | apply IsS161.drewN | apply IsS161.drew | apply IsS161.set_1 | refine IsS161.far ?_ NB0_407.out _ | refine IsS161.far ?_ NB0_408.out _ | refine IsS161.far ?_ NB0_414.out _ | refine IsS161.far ?_ NB0_420.out _) | exact HI0.out), by repeat (first | (with_reducible first | exact HB.out | apply below_alloc | apply pw_below_drewN | apply below_drew1 | refine below_set ?_ (IsS161.ge HI0.out) | refine below_set ?_ GE407.out | refine below_set ?_ GE408.out | refine below_set ?_ GE414.out | refine below_set ?_ GE420.out) | exact HB.out), sqK HK⟩

end Go.Proofs.Ytkekcenlleebeaa.PFnValLattice
