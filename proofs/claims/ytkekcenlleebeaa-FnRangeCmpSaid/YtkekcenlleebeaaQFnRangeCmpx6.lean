/- Functions of the program as plain Lean functions, and that calls of them come to what these tell. Conditions: those in each law. -/
import Derived.Test.YtkekcenlleebeaaSq
import Derived.Test.YtkekcenlleebeaaDFnRangeCmp
import Derived.Test.YtkekcenlleebeaaQFnRangeCmpx0
import Derived.Test.YtkekcenlleebeaaQFnRangeCmpx1
import Derived.Test.YtkekcenlleebeaaQFnRangeCmpx2
import Derived.Test.YtkekcenlleebeaaQFnRangeCmpx3
import Derived.Test.YtkekcenlleebeaaQFnRangeCmpx4
import Derived.Test.YtkekcenlleebeaaQFnRangeCmpx5
namespace Go.Proofs.Ytkekcenlleebeaa.PFnRangeCmp
open Go.RowKit Go.Proofs.Ytkekcenlleebeaa.Sq Go.Proofs.YtkekcenlleebeaaW.PrintWords Go.Proofs.YtkekcenlleebeaaW.PrintLast Go.Proofs.YtkekcenlleebeaaW.PrintMore
attribute [local go_sem] max2_int min2_int max_two min_two max_three min_three max_four min_four   -- for this text's walks alone
set_option linter.unusedVariables false
set_option linter.unusedSimpArgs false

attribute [local go_sem high] eqA24
/-! ### spec_l8Two: function 125 -/
theorem spec_l8Two.mono_l : ∀ k, (∀ y0 y1 y2 y3 y4 y5 y6, LeO (spec_l8Two.j0 k y0 y1 y2 y3 y4 y5 y6) (spec_l8Two.j0 (k + 1) y0 y1 y2 y3 y4 y5 y6))
  | 0 => fun _ _ _ _ _ _ _ r h => by simp [spec_l8Two.j0] at h
  | k + 1 => by
    have ih0 := spec_l8Two.mono_l k
    · intro y0 y1 y2 y3 y4 y5 y6
      unfold spec_l8Two.j0
      repeat' first
      | (with_reducible exact ih0 _ _ _ _ _ _ _)
      | (with_reducible exact spec_l1Rd_pick.mono _ _ _ _)
      | (with_reducible exact spec_l8Wild.mono _ _ _)
      | (with_reducible exact LeO.refl _)
      | (with_reducible exact LeO.none _)
      | (with_reducible refine LeO.ite ?_ ?_)
      | (with_reducible refine LeO.bind ?_ (fun _ => ?_))
      | exact ih0 _ _ _ _ _ _ _
      | exact spec_l1Rd_pick.mono _ _ _ _
      | exact spec_l8Wild.mono _ _ _
      | exact LeO.none _
      | refine LeO.ite ?_ ?_
      | refine LeO.bind ?_ (fun _ => ?_)
theorem spec_l8Two.mono : ∀ a0 a1 k, LeO (spec_l8Two.f k a0 a1) (spec_l8Two.f (k + 1) a0 a1) := by
  intro a0 a1 k
  have ih0 := spec_l8Two.mono_l k
  unfold spec_l8Two.f
  repeat' first
      | (with_reducible exact ih0 _ _ _ _ _ _ _)
      | (with_reducible exact spec_l1Rd_pick.mono _ _ _ _)
      | (with_reducible exact spec_l8Wild.mono _ _ _)
      | (with_reducible exact LeO.refl _)
      | (with_reducible exact LeO.none _)
      | (with_reducible refine LeO.ite ?_ ?_)
      | (with_reducible refine LeO.bind ?_ (fun _ => ?_))
      | exact ih0 _ _ _ _ _ _ _
      | exact spec_l1Rd_pick.mono _ _ _ _
      | exact spec_l8Wild.mono _ _ _
      | exact LeO.none _
      | refine LeO.ite ?_ ?_
      | refine LeO.bind ?_ (fun _ => ?_)
def spec_l8Two.T3 : Bool × List (List Nat × List Nat) := (true, [([], []), ([0], [0]), ([1], [1]), ([2, 1], [2]), ([3], [3]), ([4, 3, 3], [3, 4]), ([3, 5], [3, 5]), ([6, 5], [6]), ([7], [7]), ([7, 7], [7]), ([8, 9, 7], [7, 8, 9]), ([7, 10], [7, 10])])
def spec_l8Two.B3 : List Nat := [0, 1, 3, 7, 15, 31, 63, 127, 255, 255, 1023, 2047]
theorem spec_l8Two.tab3 : rtab .any (opsOf Try.f125 3) = spec_l8Two.T3 := by kernel_rfl
theorem spec_l8Two.bits3 : waitsOk spec_l8Two.T3.2 spec_l8Two.B3 = true := by kernel_rfl
def spec_l8Two.T4 : Bool × List (List Nat × List Nat) := (true, [([], []), ([0], [0]), ([], []), ([2], [2]), ([1, 3], [1, 3]), ([4], [4]), ([], []), ([6], [6]), ([], []), ([8, 3], [8]), ([7, 9], [7, 9]), ([10], [10]), ([5, 11, 9], [5, 11]), ([12, 12, 0, 1, 2, 3, 4, 5, 6, 7, 8, 9, 10, 11, 12], [12])])
def spec_l8Two.B4 : List Nat := [0, 1, 0, 4, 15, 31, 0, 64, 0, 268, 972, 1996, 4095, 8191]
theorem spec_l8Two.tab4 : rtab .any (opsOf Try.f125 4) = spec_l8Two.T4 := by kernel_rfl
theorem spec_l8Two.bits4 : waitsOk spec_l8Two.T4.2 spec_l8Two.B4 = true := by kernel_rfl
set_option maxHeartbeats 8000000 in
set_option maxRecDepth 100000 in
theorem spec_l8Two.calls (k : Nat) (g : Nat) (s0_0 : List Int) (s0_1 : Int) (r1 : Int) (r2 : Int) (r3 : Int) (r4 : Int) (r5 : Int) (w0 w : World) (hI : IsS161 w0 w g s0_0 s0_1) (hB : Below w0.heap.size w0 w) (h : spec_l8Two.f k s0_0 s0_1 = some (r1, r2, r3, r4, r5)) :
    Calls Try.prog 125 #[.pointer (some ⟨g, 0, none⟩)] w fun e w' => e = .returned (.tuple #[.agg #[.int .i64 r1, .int .i64 r2], .agg #[.int .i64 r3, .int .i64 r4]]) ∧ IsS161 w0 w' g s0_0 r5 ∧ Below w0.heap.size w0 w' ∧ KeepBut w w' g none := by
  have hu24 := Try.underlying24
  have HI0 := Aside0.mk hI
  have HK := Aside0.mk (KeepBut.refl w g none)
  have HL := Aside0.mk hB.size
  clear hI
  have HW0 := Aside0.mk hB.size
  have HB := Aside0.mk hB
  clear hB
  have H : ((spec_l8Wild.f k s0_0 s0_1).bind fun bt196 => ((spec_l8Wild.f k s0_0 bt196.2.2).bind fun bt200 => ((spec_l1Rd_pick.f k s0_0 bt200.2.2 3).bind fun bt204 => (if bt204.1 = 0 then ((spec_RangeOk.f bt196.1 bt196.2.1).bind fun t206 => (if t206 = true then ((spec_l8None.f).bind fun bt207 => (spec_l8Two.j0 k (!(bt196.1 == bt207.1) || (!(bt196.2.1 == bt207.2))) s0_0 bt204.2 bt196.1 bt196.2.1 bt200.1 bt200.2.1)) else (spec_l8Two.j0 k false s0_0 bt204.2 bt196.1 bt196.2.1 bt200.1 bt200.2.1))) else (spec_l8Two.j0 k false s0_0 bt204.2 bt196.1 bt196.2.1 bt200.1 bt200.2.1))))) = some (r1, r2, r3, r4, r5) := h
  clear h
  replace H := Option.bind_eq_some_iff.mp H
  obtain ⟨⟨t196, t197, t198⟩, A20, H⟩ := H
  replace H : ((spec_l8Wild.f k s0_0 t198).bind fun bt200 => ((spec_l1Rd_pick.f k s0_0 bt200.2.2 3).bind fun bt204 => (if bt204.1 = 0 then ((spec_RangeOk.f t196 t197).bind fun t206 => (if t206 = true then ((spec_l8None.f).bind fun bt207 => (spec_l8Two.j0 k (!(t196 == bt207.1) || (!(t197 == bt207.2))) s0_0 bt204.2 t196 t197 bt200.1 bt200.2.1)) else (spec_l8Two.j0 k false s0_0 bt204.2 t196 t197 bt200.1 bt200.2.1))) else (spec_l8Two.j0 k false s0_0 bt204.2 t196 t197 bt200.1 bt200.2.1)))) = some (r1, r2, r3, r4, r5) := H
  have A2 := Aside0.mk A20
  clear A20
  replace H := Option.bind_eq_some_iff.mp H
  obtain ⟨⟨t200, t201, t202⟩, A30, H⟩ := H
  replace H : ((spec_l1Rd_pick.f k s0_0 t202 3).bind fun bt204 => (if bt204.1 = 0 then ((spec_RangeOk.f t196 t197).bind fun t206 => (if t206 = true then ((spec_l8None.f).bind fun bt207 => (spec_l8Two.j0 k (!(t196 == bt207.1) || (!(t197 == bt207.2))) s0_0 bt204.2 t196 t197 t200 t201)) else (spec_l8Two.j0 k false s0_0 bt204.2 t196 t197 t200 t201))) else (spec_l8Two.j0 k false s0_0 bt204.2 t196 t197 t200 t201))) = some (r1, r2, r3, r4, r5) := H
  have A3 := Aside0.mk A30
  clear A30
  have HC4 := Aside0.mk H
  clear H
  go_enter Try.func125, Try.ntmps125
  go_upto_region 3 with (first | ((with_reducible refine gate_dst (N := 2) rfl ?_); refine sqx 2 #[.int .i64 0, .int .i64 0] 24 ?_; intro gb194 hg w5 hbox hb; have n0_ := Aside0.mk (IsS161.below (by repeat (first | (with_reducible first | exact HI0.out | apply IsS161.alloc | apply IsS161.drewN | apply IsS161.drew | apply IsS161.set_1) | exact HI0.out)) hb); have n1_ := Aside0.mk (KeepBut.trans (by repeat (first | (with_reducible first | exact HK.out | apply KeepBut.set_ | apply keep_drewN | apply keep_drew | apply keep_alloc) | exact HK.out)) (KeepBut.of_below hb g none) (.inl rfl)); have n2_ := Aside0.mk (below_step (by repeat (first | (with_reducible first | exact HB.out | apply below_alloc | apply pw_below_drewN | apply below_drew1 | refine below_set ?_ (IsS161.ge HI0.out)) | exact HB.out)) hb); have n3_ := Aside0.mk (hbox); have n4_ := Aside0.mk ((by rw [hg]; exact (keep_size (w := w) (g := g) (row := none) (by repeat (first | (with_reducible first | exact HK.out | apply KeepBut.set_ | apply keep_drewN | apply keep_drew | apply keep_alloc) | exact HK.out))) : w.heap.size ≤ gb194)); have n5_ := Aside0.mk ((Nat.le_trans HW0.out (by rw [hg]; exact (keep_size (w := w) (g := g) (row := none) (by repeat (first | (with_reducible first | exact HK.out | apply KeepBut.set_ | apply keep_drewN | apply keep_drew | apply keep_alloc) | exact HK.out))) : w.heap.size ≤ gb194) : w0.heap.size ≤ gb194)); have n6_ := Aside0.mk ((by rw [hg]; exact Nat.ne_of_lt (IsS161.lt (show IsS161 w0 _ g s0_0 s0_1 from by repeat (first | (with_reducible first | exact HI0.out | apply IsS161.alloc | apply IsS161.drewN | apply IsS161.drew | apply IsS161.set_1) | exact HI0.out))) : g ≠ gb194)); have n7_ := Aside0.mk ((by rw [hg]; exact Nat.ne_of_gt (IsS161.lt (show IsS161 w0 _ g s0_0 s0_1 from by repeat (first | (with_reducible first | exact HI0.out | apply IsS161.alloc | apply IsS161.drewN | apply IsS161.drew | apply IsS161.set_1) | exact HI0.out))) : gb194 ≠ g)); clear HI0; clear HK; clear HB; have HI0 := n0_; have HK := n1_; have HB := n2_; have BK194 := n3_; have GW194 := n4_; have GE194 := n5_; have NB0_194 := n6_; have NB194_0 := n7_; clear n0_ n1_ n2_ n3_ n4_ n5_ n6_ n7_; clear hb hbox hg) | ((with_reducible refine gate_dst (N := 3) rfl ?_); refine sqx 3 #[.int .i64 0, .int .i64 0] 24 ?_; intro gb195 hg w6 hbox hb; have n0_ := Aside0.mk (IsS161.below (by repeat (first | (with_reducible first | exact HI0.out | apply IsS161.alloc | apply IsS161.drewN | apply IsS161.drew | apply IsS161.set_1 | refine IsS161.far ?_ NB0_194.out _) | exact HI0.out)) hb); have n1_ := sqb BK194 hb; have n2_ := Aside0.mk (KeepBut.trans (by repeat (first | (with_reducible first | exact HK.out | apply KeepBut.set_ | apply keep_drewN | apply keep_drew | apply keep_alloc | refine keep_far ?_ GW194.out _) | exact HK.out)) (KeepBut.of_below hb g none) (.inl rfl)); have n3_ := Aside0.mk (below_step (by repeat (first | (with_reducible first | exact HB.out | apply below_alloc | apply pw_below_drewN | apply below_drew1 | refine below_set ?_ (IsS161.ge HI0.out) | refine below_set ?_ GE194.out) | exact HB.out)) hb); have n4_ := Aside0.mk (hbox); have n5_ := Aside0.mk ((by rw [hg]; exact (keep_size (w := w) (g := g) (row := none) (by repeat (first | (with_reducible first | exact HK.out | apply KeepBut.set_ | apply keep_drewN | apply keep_drew | apply keep_alloc | refine keep_far ?_ GW194.out _) | exact HK.out))) : w.heap.size ≤ gb195)); have n6_ := Aside0.mk ((Nat.le_trans HW0.out (by rw [hg]; exact (keep_size (w := w) (g := g) (row := none) (by repeat (first | (with_reducible first | exact HK.out | apply KeepBut.set_ | apply keep_drewN | apply keep_drew | apply keep_alloc | refine keep_far ?_ GW194.out _) | exact HK.out))) : w.heap.size ≤ gb195) : w0.heap.size ≤ gb195)); have n7_ := sqn BK194 hg; have n8_ := sqm BK194 hg; have n9_ := Aside0.mk ((by rw [hg]; exact Nat.ne_of_lt (IsS161.lt (show IsS161 w0 _ g s0_0 s0_1 from by repeat (first | (with_reducible first | exact HI0.out | apply IsS161.alloc | apply IsS161.drewN | apply IsS161.drew | apply IsS161.set_1 | refine IsS161.far ?_ NB0_194.out _) | exact HI0.out))) : g ≠ gb195)); have n10_ := Aside0.mk ((by rw [hg]; exact Nat.ne_of_gt (IsS161.lt (show IsS161 w0 _ g s0_0 s0_1 from by repeat (first | (with_reducible first | exact HI0.out | apply IsS161.alloc | apply IsS161.drewN | apply IsS161.drew | apply IsS161.set_1 | refine IsS161.far ?_ NB0_194.out _) | exact HI0.out))) : gb195 ≠ g)); clear HI0; clear BK194; clear HK; clear HB; have HI0 := n0_; have BK194 := n1_; have HK := n2_; have HB := n3_; have BK195 := n4_; have GW195 := n5_; have GE195 := n6_; have NB194_195 := n7_; have NB195_194 := n8_; have NB0_195 := n9_; have NB195_0 := n10_; clear n0_ n1_ n2_ n3_ n4_ n5_ n6_ n7_ n8_ n9_ n10_; clear hb hbox hg) | ((with_reducible refine gate_callee (f := 93) rfl ?_); refine sqL (some 7) Try.func93 #[.pointer (some ⟨g, 0, none⟩)] ?_; (with_reducible refine (spec_l8Wild.calls k g s0_0 s0_1 t196 t197 t198 w0 _ ?side1 ?side2 A2.out).mono ?_); (case side1 => repeat (first | (with_reducible first | exact HI0.out | apply IsS161.alloc | apply IsS161.drewN | apply IsS161.drew | apply IsS161.set_1 | refine IsS161.far ?_ NB0_194.out _ | refine IsS161.far ?_ NB0_195.out _) | exact HI0.out)); (case side2 => repeat (first | (with_reducible first | exact HB.out | apply below_alloc | apply pw_below_drewN | apply below_drew1 | refine below_set ?_ (IsS161.ge HI0.out) | refine below_set ?_ GE194.out | refine below_set ?_ GE195.out) | exact HB.out)); rintro e w7 ⟨rfl, hi, hb, hk⟩; refine ⟨_, rfl, ?_⟩; have n0_ := Aside0.mk (KeepBut.blk hk (g' := gb194) (o := .cells #[.int .i64 0, .int .i64 0] 24 (0, 0)) (by refine sqt ?_; exact BK194.out) NB194_0.out (by simp)); have n1_ := Aside0.mk (KeepBut.blk hk (g' := gb195) (o := .cells #[.int .i64 0, .int .i64 0] 24 (0, 0)) (by refine sqt ?_; exact BK195.out) NB195_0.out (by simp)); have n2_ := Aside0.mk (KeepBut.trans (by repeat (first | (with_reducible first | exact HK.out | apply KeepBut.set_ | apply keep_drewN | apply keep_drew | apply keep_alloc | refine keep_far ?_ GW194.out _ | refine keep_far ?_ GW195.out _) | exact HK.out)) hk (.inl rfl)); have n3_ := Aside0.mk (hb); have n4_ := Aside0.mk (hi); clear BK194; clear BK195; clear HK; clear HB; clear HI0; have BK194 := n0_; have BK195 := n1_; have HK := n2_; have HB := n3_; have HI0 := n4_; clear n0_ n1_ n2_ n3_ n4_; (try clear hb); (try clear hb2); (try clear hk); (try clear hi)) | ((with_reducible refine gate_dst (N := 4) rfl ?_); refine sqx 4 #[.int .i64 0, .int .i64 0] 24 ?_; intro gb199 hg w8 hbox hb; have n0_ := Aside0.mk (IsS161.below (by repeat (first | (with_reducible first | exact HI0.out | apply IsS161.alloc | apply IsS161.drewN | apply IsS161.drew | apply IsS161.set_1 | refine IsS161.far ?_ NB0_194.out _ | refine IsS161.far ?_ NB0_195.out _) | exact HI0.out)) hb); have n1_ := sqb BK194 hb; have n2_ := sqb BK195 hb; have n3_ := Aside0.mk (KeepBut.trans (by repeat (first | (with_reducible first | exact HK.out | apply KeepBut.set_ | apply keep_drewN | apply keep_drew | apply keep_alloc | refine keep_far ?_ GW194.out _ | refine keep_far ?_ GW195.out _) | exact HK.out)) (KeepBut.of_below hb g none) (.inl rfl)); have n4_ := Aside0.mk (below_step (by repeat (first | (with_reducible first | exact HB.out | apply below_alloc | apply pw_below_drewN | apply below_drew1 | refine below_set ?_ (IsS161.ge HI0.out) | refine below_set ?_ GE194.out | refine below_set ?_ GE195.out) | exact HB.out)) hb); have n5_ := Aside0.mk (hbox); have n6_ := Aside0.mk ((by rw [hg]; exact (keep_size (w := w) (g := g) (row := none) (by repeat (first | (with_reducible first | exact HK.out | apply KeepBut.set_ | apply keep_drewN | apply keep_drew | apply keep_alloc | refine keep_far ?_ GW194.out _ | refine keep_far ?_ GW195.out _) | exact HK.out))) : w.heap.size ≤ gb199)); have n7_ := Aside0.mk ((Nat.le_trans HW0.out (by rw [hg]; exact (keep_size (w := w) (g := g) (row := none) (by repeat (first | (with_reducible first | exact HK.out | apply KeepBut.set_ | apply keep_drewN | apply keep_drew | apply keep_alloc | refine keep_far ?_ GW194.out _ | refine keep_far ?_ GW195.out _) | exact HK.out))) : w.heap.size ≤ gb199) : w0.heap.size ≤ gb199)); have n8_ := sqn BK194 hg; have n9_ := sqm BK194 hg; have n10_ := sqn BK195 hg; have n11_ := sqm BK195 hg; have n12_ := Aside0.mk ((by rw [hg]; exact Nat.ne_of_lt (IsS161.lt (show IsS161 w0 _ g s0_0 t198 from by repeat (first | (with_reducible first | exact HI0.out | apply IsS161.alloc | apply IsS161.drewN | apply IsS161.drew | apply IsS161.set_1 | refine IsS161.far ?_ NB0_194.out _ | refine IsS161.far ?_ NB0_195.out _) | exact HI0.out))) : g ≠ gb199)); have n13_ := Aside0.mk ((by rw [hg]; exact Nat.ne_of_gt (IsS161.lt (show IsS161 w0 _ g s0_0 t198 from by repeat (first | (with_reducible first | exact HI0.out | apply IsS161.alloc | apply IsS161.drewN | apply IsS161.drew | apply IsS161.set_1 | refine IsS161.far ?_ NB0_194.out _ | refine IsS161.far ?_ NB0_195.out _) | exact HI0.out))) : gb199 ≠ g)); clear HI0; clear BK194; clear BK195; clear HK; clear HB; have HI0 := n0_; have BK194 := n1_; have BK195 := n2_; have HK := n3_; have HB := n4_; have BK199 := n5_; have GW199 := n6_; have GE199 := n7_; have NB194_199 := n8_; have NB199_194 := n9_; have NB195_199 := n10_; have NB199_195 := n11_; have NB0_199 := n12_; have NB199_0 := n13_; clear n0_ n1_ n2_ n3_ n4_ n5_ n6_ n7_ n8_ n9_ n10_ n11_ n12_ n13_; clear hb hbox hg; have hnb9 := NB199_194.out; have hnc9 := NB194_199.out; have hnb10 := NB199_195.out; have hnc10 := NB195_199.out; have hnb11 := NB199_0.out; have hnc11 := NB0_199.out; obtain ⟨hcz12_0, hcz12_1, hfz12_0, hfz12_1⟩ := sqc2 BK199) | ((with_reducible refine gate_callee (f := 93) rfl ?_); refine sqL (some 9) Try.func93 #[.pointer (some ⟨g, 0, none⟩)] ?_; (with_reducible refine (spec_l8Wild.calls k g s0_0 t198 t200 t201 t202 w0 _ ?side1 ?side2 A3.out).mono ?_); (case side1 => repeat (first | (with_reducible first | exact HI0.out | apply IsS161.alloc | apply IsS161.drewN | apply IsS161.drew | apply IsS161.set_1 | refine IsS161.far ?_ NB0_194.out _ | refine IsS161.far ?_ NB0_195.out _ | refine IsS161.far ?_ NB0_199.out _) | exact HI0.out)); (case side2 => repeat (first | (with_reducible first | exact HB.out | apply below_alloc | apply pw_below_drewN | apply below_drew1 | refine below_set ?_ (IsS161.ge HI0.out) | refine below_set ?_ GE194.out | refine below_set ?_ GE195.out | refine below_set ?_ GE199.out) | exact HB.out)); rintro e w13 ⟨rfl, hi, hb, hk⟩; refine ⟨_, rfl, ?_⟩; have n0_ := Aside0.mk (KeepBut.blk hk (g' := gb194) (o := .cells #[.int .i64 0, .int .i64 0] 24 (0, 0)) (by refine sqt ?_; refine blk_far ?_ NB194_199.out _; refine sqt ?_; refine blk_far ?_ NB194_199.out _; refine sqt ?_; exact BK194.out) NB194_0.out (by simp)); have n1_ := Aside0.mk (KeepBut.blk hk (g' := gb195) (o := .cells #[.int .i64 0, .int .i64 0] 24 (0, 0)) (by refine sqt ?_; refine blk_far ?_ NB195_199.out _; refine sqt ?_; refine blk_far ?_ NB195_199.out _; refine sqt ?_; exact BK195.out) NB195_0.out (by simp)); have n2_ := Aside0.mk (KeepBut.blk hk (g' := gb199) (o := .cells #[.int .i64 t196, .int .i64 t197] 24 (0, 0)) (by refine sqt ?_; refine blk_put (cs := #[.int .i64 t196, .int .i64 0]) ?_ 1 _ rfl; refine sqt ?_; refine blk_put (cs := #[.int .i64 0, .int .i64 0]) ?_ 0 _ rfl; refine sqt ?_; exact BK199.out) NB199_0.out (by simp)); have n3_ := Aside0.mk (KeepBut.trans (by repeat (first | (with_reducible first | exact HK.out | apply KeepBut.set_ | apply keep_drewN | apply keep_drew | apply keep_alloc | refine keep_far ?_ GW194.out _ | refine keep_far ?_ GW195.out _ | refine keep_far ?_ GW199.out _) | exact HK.out)) hk (.inl rfl)); have n4_ := Aside0.mk (hb); have n5_ := Aside0.mk (hi); clear BK194; clear BK195; clear BK199; clear HK; clear HB; clear HI0; have BK194 := n0_; have BK195 := n1_; have BK199 := n2_; have HK := n3_; have HB := n4_; have HI0 := n5_; clear n0_ n1_ n2_ n3_ n4_ n5_; (try clear hb); (try clear hb2); (try clear hk); (try clear hi)) | ((with_reducible refine gate_dst (N := 5) rfl ?_); refine sqx 5 #[.int .i64 0, .int .i64 0] 24 ?_; intro gb203 hg w14 hbox hb; have n0_ := Aside0.mk (IsS161.below (by repeat (first | (with_reducible first | exact HI0.out | apply IsS161.alloc | apply IsS161.drewN | apply IsS161.drew | apply IsS161.set_1 | refine IsS161.far ?_ NB0_194.out _ | refine IsS161.far ?_ NB0_195.out _ | refine IsS161.far ?_ NB0_199.out _) | exact HI0.out)) hb); have n1_ := sqb BK194 hb; have n2_ := sqb BK195 hb; have n3_ := sqb BK199 hb; have n4_ := Aside0.mk (KeepBut.trans (by repeat (first | (with_reducible first | exact HK.out | apply KeepBut.set_ | apply keep_drewN | apply keep_drew | apply keep_alloc | refine keep_far ?_ GW194.out _ | refine keep_far ?_ GW195.out _ | refine keep_far ?_ GW199.out _) | exact HK.out)) (KeepBut.of_below hb g none) (.inl rfl)); have n5_ := Aside0.mk (below_step (by repeat (first | (with_reducible first | exact HB.out | apply below_alloc | apply pw_below_drewN | apply below_drew1 | refine below_set ?_ (IsS161.ge HI0.out) | refine below_set ?_ GE194.out | refine below_set ?_ GE195.out | refine below_set ?_ GE199.out) | exact HB.out)) hb); have n6_ := Aside0.mk (hbox); have n7_ := Aside0.mk ((by rw [hg]; exact (keep_size (w := w) (g := g) (row := none) (by repeat (first | (with_reducible first | exact HK.out | apply KeepBut.set_ | apply keep_drewN | apply keep_drew | apply keep_alloc | refine keep_far ?_ GW194.out _ | refine keep_far ?_ GW195.out _ | refine keep_far ?_ GW199.out _) | exact HK.out))) : w.heap.size ≤ gb203)); have n8_ := Aside0.mk ((Nat.le_trans HW0.out (by rw [hg]; exact (keep_size (w := w) (g := g) (row := none) (by repeat (first | (with_reducible first | exact HK.out | apply KeepBut.set_ | apply keep_drewN | apply keep_drew | apply keep_alloc | refine keep_far ?_ GW194.out _ | refine keep_far ?_ GW195.out _ | refine keep_far ?_ GW199.out _) | exact HK.out))) : w.heap.size ≤ gb203) : w0.heap.size ≤ gb203)); have n9_ := sqn BK194 hg; have n10_ := sqm BK194 hg; have n11_ := sqn BK195 hg; have n12_ := sqm BK195 hg; have n13_ := sqn BK199 hg; have n14_ := sqm BK199 hg; have n15_ := Aside0.mk ((by rw [hg]; exact Nat.ne_of_lt (IsS161.lt (show IsS161 w0 _ g s0_0 t202 from by repeat (first | (with_reducible first | exact HI0.out | apply IsS161.alloc | apply IsS161.drewN | apply IsS161.drew | apply IsS161.set_1 | refine IsS161.far ?_ NB0_194.out _ | refine IsS161.far ?_ NB0_195.out _ | refine IsS161.far ?_ NB0_199.out _) | exact HI0.out))) : g ≠ gb203)); have n16_ := Aside0.mk ((by rw [hg]; exact Nat.ne_of_gt (IsS161.lt (show IsS161 w0 _ g s0_0 t202 from by repeat (first | (with_reducible first | exact HI0.out | apply IsS161.alloc | apply IsS161.drewN | apply IsS161.drew | apply IsS161.set_1 | refine IsS161.far ?_ NB0_194.out _ | refine IsS161.far ?_ NB0_195.out _ | refine IsS161.far ?_ NB0_199.out _) | exact HI0.out))) : gb203 ≠ g)); clear HI0; clear BK194; clear BK195; clear BK199; clear HK; clear HB; have HI0 := n0_; have BK194 := n1_; have BK195 := n2_; have BK199 := n3_; have HK := n4_; have HB := n5_; have BK203 := n6_; have GW203 := n7_; have GE203 := n8_; have NB194_203 := n9_; have NB203_194 := n10_; have NB195_203 := n11_; have NB203_195 := n12_; have NB199_203 := n13_; have NB203_199 := n14_; have NB0_203 := n15_; have NB203_0 := n16_; clear n0_ n1_ n2_ n3_ n4_ n5_ n6_ n7_ n8_ n9_ n10_ n11_ n12_ n13_ n14_ n15_ n16_; clear hb hbox hg; have hnb15 := NB203_194.out; have hnc15 := NB194_203.out; have hnb16 := NB203_195.out; have hnc16 := NB195_203.out; have hnb17 := NB203_199.out; have hnc17 := NB199_203.out; have hnb18 := NB203_0.out; have hnc18 := NB0_203.out; obtain ⟨hcz19_0, hcz19_1, hfz19_0, hfz19_1⟩ := sqc2 BK203))
  (try simp only [Act.put, List.setIfInBounds_toArray, List.set_cons_zero, List.set_cons_succ])
  go_cut [21] (fun v21 wc => ∃ (kq : Nat) (x21_3 : Bool) (x1001_3 : Int), v21 = .bool x21_3 ∧ Aside0 (spec_l8Two.j0 kq x21_3 s0_0 x1001_3 t196 t197 t200 t201 = some (r1, r2, r3, r4, r5)) ∧ Aside0 (kq ≤ k) ∧ Aside0 (wc.heap[gb194]? = some (.cells #[.int .i64 0, .int .i64 0] 24 (0, 0))) ∧ Aside0 (wc.heap[gb195]? = some (.cells #[.int .i64 0, .int .i64 0] 24 (0, 0))) ∧ Aside0 (wc.heap[gb199]? = some (.cells #[.int .i64 t196, .int .i64 t197] 24 (0, 0))) ∧ Aside0 (wc.heap[gb203]? = some (.cells #[.int .i64 t200, .int .i64 t201] 24 (0, 0))) ∧ Aside0 (IsS161 w0 wc g s0_0 x1001_3) ∧ Aside0 (KeepBut w wc g none) ∧ Aside0 (Below w0.heap.size w0 wc))
  case first =>
    have H := HC4.out
    clear HC4
    replace H := Option.bind_eq_some_iff.mp H
    obtain ⟨⟨t204, t205⟩, A200, H⟩ := H
    replace H : (if t204 = 0 then ((spec_RangeOk.f t196 t197).bind fun t206 => (if t206 = true then ((spec_l8None.f).bind fun bt207 => (spec_l8Two.j0 k (!(t196 == bt207.1) || (!(t197 == bt207.2))) s0_0 t205 t196 t197 t200 t201)) else (spec_l8Two.j0 k false s0_0 t205 t196 t197 t200 t201))) else (spec_l8Two.j0 k false s0_0 t205 t196 t197 t200 t201)) = some (r1, r2, r3, r4, r5) := H
    have A20 := Aside0.mk A200
    clear A200
    by_cases c21 : t204 = 0
    · rw [if_pos c21] at H
      have c21b0 : (t204 == 0) = true := beq_iff_eq.mpr c21
      have c21b1 : (t204 != 0) = false := bne_eq_false_iff_eq.mpr c21
      clear c21
      (first | rw [c21b0] | (simp only [i64_w, i32_w]; rw [c21b0]) | skip)
      replace H := Option.bind_eq_some_iff.mp H
      obtain ⟨t206, A220, H⟩ := H
      replace H : (if t206 = true then ((spec_l8None.f).bind fun bt207 => (spec_l8Two.j0 k (!(t196 == bt207.1) || (!(t197 == bt207.2))) s0_0 t205 t196 t197 t200 t201)) else (spec_l8Two.j0 k false s0_0 t205 t196 t197 t200 t201)) = some (r1, r2, r3, r4, r5) := H
      have A22 := Aside0.mk A220
      clear A220
      by_cases c23 : t206 = true
      · subst c23
        have H1 : ((spec_l8None.f).bind fun bt207 => (spec_l8Two.j0 k (!(t196 == bt207.1) || (!(t197 == bt207.2))) s0_0 t205 t196 t197 t200 t201)) = some (r1, r2, r3, r4, r5) := by rw [if_pos rfl] at H; exact H
        clear H
        have H := H1
        clear H1
        replace H := Option.bind_eq_some_iff.mp H
        obtain ⟨⟨t207, t208⟩, A240, H⟩ := H
        replace H : (spec_l8Two.j0 k (!(t196 == t207) || (!(t197 == t208))) s0_0 t205 t196 t197 t200 t201) = some (r1, r2, r3, r4, r5) := H
        have A24 := Aside0.mk A240
        clear A240
        have H' := Aside0.mk H
        clear H
        try go_wp2
        have n0_ : Aside0 (((w14.setCell ⟨gb203, 0, none⟩ (.int .i64 t200)).setCell ⟨gb203, 1, none⟩ (.int .i64 t201)).heap[gb194]? = some (.cells #[.int .i64 0, .int .i64 0] 24 (0, 0))) := ⟨by refine sqt ?_; refine blk_far ?_ NB194_203.out _; refine sqt ?_; refine blk_far ?_ NB194_203.out _; refine sqt ?_; exact BK194.out⟩
        have n1_ : Aside0 (((w14.setCell ⟨gb203, 0, none⟩ (.int .i64 t200)).setCell ⟨gb203, 1, none⟩ (.int .i64 t201)).heap[gb195]? = some (.cells #[.int .i64 0, .int .i64 0] 24 (0, 0))) := ⟨by refine sqt ?_; refine blk_far ?_ NB195_203.out _; refine sqt ?_; refine blk_far ?_ NB195_203.out _; refine sqt ?_; exact BK195.out⟩
        have n2_ : Aside0 (((w14.setCell ⟨gb203, 0, none⟩ (.int .i64 t200)).setCell ⟨gb203, 1, none⟩ (.int .i64 t201)).heap[gb199]? = some (.cells #[.int .i64 t196, .int .i64 t197] 24 (0, 0))) := ⟨by refine sqt ?_; refine blk_far ?_ NB199_203.out _; refine sqt ?_; refine blk_far ?_ NB199_203.out _; refine sqt ?_; exact BK199.out⟩
        have n3_ : Aside0 (((w14.setCell ⟨gb203, 0, none⟩ (.int .i64 t200)).setCell ⟨gb203, 1, none⟩ (.int .i64 t201)).heap[gb203]? = some (.cells #[.int .i64 t200, .int .i64 t201] 24 (0, 0))) := ⟨by refine sqt ?_; refine blk_put (cs := #[.int .i64 t200, .int .i64 0]) ?_ 1 _ rfl; refine sqt ?_; refine blk_put (cs := #[.int .i64 0, .int .i64 0]) ?_ 0 _ rfl; refine sqt ?_; exact BK203.out⟩
        have n4_ : Aside0 (IsS161 w0 ((w14.setCell ⟨gb203, 0, none⟩ (.int .i64 t200)).setCell ⟨gb203, 1, none⟩ (.int .i64 t201)) g s0_0 t202) := ⟨by repeat (first | (with_reducible first | exact HI0.out | apply IsS161.alloc | apply IsS161.drewN | apply IsS161.drew | apply IsS161.set_1 | refine IsS161.far ?_ NB0_194.out _ | refine IsS161.far ?_ NB0_195.out _ | refine IsS161.far ?_ NB0_199.out _ | refine IsS161.far ?_ NB0_203.out _) | exact HI0.out)⟩
        have n5_ : Aside0 (KeepBut w ((w14.setCell ⟨gb203, 0, none⟩ (.int .i64 t200)).setCell ⟨gb203, 1, none⟩ (.int .i64 t201)) g none) := ⟨by repeat (first | (with_reducible first | exact HK.out | apply KeepBut.set_ | apply keep_drewN | apply keep_drew | apply keep_alloc | refine keep_far ?_ GW194.out _ | refine keep_far ?_ GW195.out _ | refine keep_far ?_ GW199.out _ | refine keep_far ?_ GW203.out _) | exact HK.out)⟩
        have n6_ : Aside0 (Below w0.heap.size w0 ((w14.setCell ⟨gb203, 0, none⟩ (.int .i64 t200)).setCell ⟨gb203, 1, none⟩ (.int .i64 t201))) := ⟨by repeat (first | (with_reducible first | exact HB.out | apply below_alloc | apply pw_below_drewN | apply below_drew1 | refine below_set ?_ (IsS161.ge HI0.out) | refine below_set ?_ GE194.out | refine below_set ?_ GE195.out | refine below_set ?_ GE199.out | refine below_set ?_ GE203.out) | exact HB.out)⟩
        (try clear BK194)
        (try clear BK195)
        (try clear BK199)
        (try clear BK203)
        (try clear HI0)
        (try clear HK)
        (try clear HB)
        generalize ((w14.setCell ⟨gb203, 0, none⟩ (.int .i64 t200)).setCell ⟨gb203, 1, none⟩ (.int .i64 t201)) = w25 at n0_ n1_ n2_ n3_ n4_ n5_ n6_ ⊢
        have BK194 := n0_
        have BK195 := n1_
        have BK199 := n2_
        have BK203 := n3_
        have HI0 := n4_
        have HK := n5_
        have HB := n6_
        clear n0_ n1_ n2_ n3_ n4_ n5_ n6_
        replace BK194 := Aside0.mk (blk_drew BK194.out)
        replace BK195 := Aside0.mk (blk_drew BK195.out)
        replace BK199 := Aside0.mk (blk_drew BK199.out)
        replace BK203 := Aside0.mk (blk_drew BK203.out)
        replace HI0 := Aside0.mk (IsS161.drew HI0.out)
        replace HK := Aside0.mk (keep_drew HK.out)
        replace HB := Aside0.mk (below_drew1 HB.out)
        refine start_ (n := 12) (S := fun w' => w'.cell? ⟨gb199, 0, none⟩ = some (.int .i64 t196) ∧ w'.cell? ⟨gb199, 1, none⟩ = some (.int .i64 t197)) (ds := []) #[false, false, false, false, false, false, false, false, false, false, false, false] (by kernel_rfl) rfl rfl ⟨(blk_cell BK199.out 0).trans rfl, (blk_cell BK199.out 1).trans rfl⟩ (fun hHeld => ?_); refine with_tabW spec_l8Two.tab3 spec_l8Two.bits3 (fun HT_ HW_ => ?_)
        generalize w25.drew = w26 at BK194 BK195 BK199 BK203 HI0 HK HB hHeld ⊢
        refine sqp HT_ 0 10 ?_
        refine sqo HT_ 1 11 (fun K hK => ?_)
        refine sqG Try.func109 #[.pointer (some ⟨g, 0, none⟩), .int .i64 3] ?_
        with_reducible refine (spec_l1Rd_pick.calls k g s0_0 t202 3 t204 t205 w0 _ ?side1 ?side2 A20.out).mono ?_
        (case side1 => repeat (first | (with_reducible first | exact HI0.out | apply IsS161.alloc | apply IsS161.drewN | apply IsS161.drew | apply IsS161.set_1 | refine IsS161.far ?_ NB0_194.out _ | refine IsS161.far ?_ NB0_195.out _ | refine IsS161.far ?_ NB0_199.out _ | refine IsS161.far ?_ NB0_203.out _) | exact HI0.out))
        (case side2 => repeat (first | (with_reducible first | exact HB.out | apply below_alloc | apply pw_below_drewN | apply below_drew1 | refine below_set ?_ (IsS161.ge HI0.out) | refine below_set ?_ GE194.out | refine below_set ?_ GE195.out | refine below_set ?_ GE199.out | refine below_set ?_ GE203.out) | exact HB.out))
        rintro e w27 ⟨rfl, hi, hb, hk⟩
        refine ⟨_, rfl, ?_⟩
        have n0_ := Aside0.mk (KeepBut.blk hk (g' := gb194) (o := .cells #[.int .i64 0, .int .i64 0] 24 (0, 0)) (by refine sqt ?_; exact BK194.out) NB194_0.out (by simp))
        have n1_ := Aside0.mk (KeepBut.blk hk (g' := gb195) (o := .cells #[.int .i64 0, .int .i64 0] 24 (0, 0)) (by refine sqt ?_; exact BK195.out) NB195_0.out (by simp))
        have n2_ := Aside0.mk (KeepBut.blk hk (g' := gb199) (o := .cells #[.int .i64 t196, .int .i64 t197] 24 (0, 0)) (by refine sqt ?_; exact BK199.out) NB199_0.out (by simp))
        have n3_ := Aside0.mk (KeepBut.blk hk (g' := gb203) (o := .cells #[.int .i64 t200, .int .i64 t201] 24 (0, 0)) (by refine sqt ?_; exact BK203.out) NB203_0.out (by simp))
        have n4_ := Aside0.mk (KeepBut.trans (by repeat (first | (with_reducible first | exact HK.out | apply KeepBut.set_ | apply keep_drewN | apply keep_drew | apply keep_alloc | refine keep_far ?_ GW194.out _ | refine keep_far ?_ GW195.out _ | refine keep_far ?_ GW199.out _ | refine keep_far ?_ GW203.out _) | exact HK.out)) hk (.inl rfl))
        have n5_ := Aside0.mk (hb)
        have n6_ := Aside0.mk (hi)
        clear BK194
        clear BK195
        clear BK199
        clear BK203
        clear HK
        clear HB
        clear HI0
        have BK194 := n0_
        have BK195 := n1_
        have BK199 := n2_
        have BK203 := n3_
        have HK := n4_
        have HB := n5_
        have HI0 := n6_
        clear n0_ n1_ n2_ n3_ n4_ n5_ n6_
        (try clear hb)
        (try clear hb2)
        (try clear hk)
        (try clear hi)
        refine hK.out _ _ sqz (fun hHeld => ?_)
        clear hK K
        refine sqnm ?_
        refine sqp HT_ 2 12 ?_
        refine sqp HT_ 3 13 ?_
        refine sqw HT_ HW_ 4 14 hHeld ?_
        refine sqo HT_ 5 15 (fun K hK => ?_)
        refine sqG Try.func45 #[.agg #[.int .i64 t196, .int .i64 t197]] ?_
        with_reducible refine (spec_RangeOk.calls t196 t197 true _ A22.out).mono ?_
        rintro e w28 ⟨rfl, hb⟩
        refine ⟨_, rfl, ?_⟩
        have n0_ := Aside0.mk (IsS161.below (by repeat (first | (with_reducible first | exact HI0.out | apply IsS161.alloc | apply IsS161.drewN | apply IsS161.drew | apply IsS161.set_1 | refine IsS161.far ?_ NB0_194.out _ | refine IsS161.far ?_ NB0_195.out _ | refine IsS161.far ?_ NB0_199.out _ | refine IsS161.far ?_ NB0_203.out _) | exact HI0.out)) hb)
        have n1_ := sqb BK194 hb
        have n2_ := sqb BK195 hb
        have n3_ := sqb BK199 hb
        have n4_ := sqb BK203 hb
        have n5_ := Aside0.mk (KeepBut.trans (by repeat (first | (with_reducible first | exact HK.out | apply KeepBut.set_ | apply keep_drewN | apply keep_drew | apply keep_alloc | refine keep_far ?_ GW194.out _ | refine keep_far ?_ GW195.out _ | refine keep_far ?_ GW199.out _ | refine keep_far ?_ GW203.out _) | exact HK.out)) (KeepBut.of_below hb g none) (.inl rfl))
        have n6_ := Aside0.mk (below_step (by repeat (first | (with_reducible first | exact HB.out | apply below_alloc | apply pw_below_drewN | apply below_drew1 | refine below_set ?_ (IsS161.ge HI0.out) | refine below_set ?_ GE194.out | refine below_set ?_ GE195.out | refine below_set ?_ GE199.out | refine below_set ?_ GE203.out) | exact HB.out)) hb)
        clear HI0
        clear BK194
        clear BK195
        clear BK199
        clear BK203
        clear HK
        clear HB
        have HI0 := n0_
        have BK194 := n1_
        have BK195 := n2_
        have BK199 := n3_
        have BK203 := n4_
        have HK := n5_
        have HB := n6_
        clear n0_ n1_ n2_ n3_ n4_ n5_ n6_
        (try clear hb)
        refine hK.out _ _ sqz (fun hHeld => ?_)
        clear hK K
        refine sqnm ?_
        refine sqp HT_ 6 16 ?_
        refine sqp HT_ 7 17 ?_
        refine sqw HT_ HW_ 8 18 hHeld ?_
        refine sqo HT_ 9 19 (fun K hK => ?_)
        refine sqG Try.func99 #[] ?_
        with_reducible refine (spec_l8None.calls  t207 t208 _ A24.out).mono ?_
        rintro e w29 ⟨rfl, hb⟩
        refine ⟨_, rfl, ?_⟩
        have n0_ := Aside0.mk (IsS161.below (by repeat (first | (with_reducible first | exact HI0.out | apply IsS161.alloc | apply IsS161.drewN | apply IsS161.drew | apply IsS161.set_1 | refine IsS161.far ?_ NB0_194.out _ | refine IsS161.far ?_ NB0_195.out _ | refine IsS161.far ?_ NB0_199.out _ | refine IsS161.far ?_ NB0_203.out _) | exact HI0.out)) hb)
        have n1_ := sqb BK194 hb
        have n2_ := sqb BK195 hb
        have n3_ := sqb BK199 hb
        have n4_ := sqb BK203 hb
        have n5_ := Aside0.mk (KeepBut.trans (by repeat (first | (with_reducible first | exact HK.out | apply KeepBut.set_ | apply keep_drewN | apply keep_drew | apply keep_alloc | refine keep_far ?_ GW194.out _ | refine keep_far ?_ GW195.out _ | refine keep_far ?_ GW199.out _ | refine keep_far ?_ GW203.out _) | exact HK.out)) (KeepBut.of_below hb g none) (.inl rfl))
        have n6_ := Aside0.mk (below_step (by repeat (first | (with_reducible first | exact HB.out | apply below_alloc | apply pw_below_drewN | apply below_drew1 | refine below_set ?_ (IsS161.ge HI0.out) | refine below_set ?_ GE194.out | refine below_set ?_ GE195.out | refine below_set ?_ GE199.out | refine below_set ?_ GE203.out) | exact HB.out)) hb)
        clear HI0
        clear BK194
        clear BK195
        clear BK199
        clear BK203
        clear HK
        clear HB
        have HI0 := n0_
        have BK194 := n1_
        have BK195 := n2_
        have BK199 := n3_
        have BK203 := n4_
        have HK := n5_
        have HB := n6_
        clear n0_ n1_ n2_ n3_ n4_ n5_ n6_
        (try clear hb)
        refine hK.out _ _ sqz (fun hHeld => ?_)
        clear hK K
        refine sqnm ?_
        refine sqp HT_ 10 20 ?_
        refine sqp HT_ 11 21 ?_
        refine done_ (done_of HT_.out (by kernel_rfl)) ?_
        try go_wp2
        go_meet
        case rel => exact ⟨_, ((!(t196 == t207) || (!(t197 == t208)))), (t205), (by first | rfl | (simp; done) | (simp [*]; done)), H', ⟨by first | omega | exact Nat.le_refl _⟩, sqk BK194, sqk BK195, sqk BK199, sqk BK203, ⟨by repeat (first | (with_reducible first | exact HI0.out | apply IsS161.alloc | apply IsS161.drewN | apply IsS161.drew | apply IsS161.set_1 | refine IsS161.far ?_ NB0_194.out _ | refine IsS161.far ?_ NB0_195.out _ | refine IsS161.far ?_ NB0_199.out _ | refine IsS161.far ?_ NB0_203.out _) | exact HI0.out)⟩, ⟨by repeat (first | (with_reducible first | exact HK.out | apply KeepBut.set_ | apply keep_drewN | apply keep_drew | apply keep_alloc | refine keep_far ?_ GW194.out _ | refine keep_far ?_ GW195.out _ | refine keep_far ?_ GW199.out _ | refine keep_far ?_ GW203.out _) | exact HK.out)⟩, ⟨by repeat (first | (with_reducible first | exact HB.out | apply below_alloc | apply pw_below_drewN | apply below_drew1 | refine below_set ?_ (IsS161.ge HI0.out) | refine below_set ?_ GE194.out | refine below_set ?_ GE195.out | refine below_set ?_ GE199.out | refine below_set ?_ GE203.out) | exact HB.out)⟩⟩
      · replace c23 := Bool.eq_false_iff.mpr c23
        subst c23
        have H1 : (spec_l8Two.j0 k false s0_0 t205 t196 t197 t200 t201) = some (r1, r2, r3, r4, r5) := by rw [if_neg (show ¬ (false = true) by decide)] at H; exact H
        clear H
        have H := H1
        clear H1
        have H' := Aside0.mk H
        clear H
        try go_wp2
        have n0_ : Aside0 (((w14.setCell ⟨gb203, 0, none⟩ (.int .i64 t200)).setCell ⟨gb203, 1, none⟩ (.int .i64 t201)).heap[gb194]? = some (.cells #[.int .i64 0, .int .i64 0] 24 (0, 0))) := ⟨by refine sqt ?_; refine blk_far ?_ NB194_203.out _; refine sqt ?_; refine blk_far ?_ NB194_203.out _; refine sqt ?_; exact BK194.out⟩
        have n1_ : Aside0 (((w14.setCell ⟨gb203, 0, none⟩ (.int .i64 t200)).setCell ⟨gb203, 1, none⟩ (.int .i64 t201)).heap[gb195]? = some (.cells #[.int .i64 0, .int .i64 0] 24 (0, 0))) := ⟨by refine sqt ?_; refine blk_far ?_ NB195_203.out _; refine sqt ?_; refine blk_far ?_ NB195_203.out _; refine sqt ?_; exact BK195.out⟩
        have n2_ : Aside0 (((w14.setCell ⟨gb203, 0, none⟩ (.int .i64 t200)).setCell ⟨gb203, 1, none⟩ (.int .i64 t201)).heap[gb199]? = some (.cells #[.int .i64 t196, .int .i64 t197] 24 (0, 0))) := ⟨by refine sqt ?_; refine blk_far ?_ NB199_203.out _; refine sqt ?_; refine blk_far ?_ NB199_203.out _; refine sqt ?_; exact BK199.out⟩
        have n3_ : Aside0 (((w14.setCell ⟨gb203, 0, none⟩ (.int .i64 t200)).setCell ⟨gb203, 1, none⟩ (.int .i64 t201)).heap[gb203]? = some (.cells #[.int .i64 t200, .int .i64 t201] 24 (0, 0))) := ⟨by refine sqt ?_; refine blk_put (cs := #[.int .i64 t200, .int .i64 0]) ?_ 1 _ rfl; refine sqt ?_; refine blk_put (cs := #[.int .i64 0, .int .i64 0]) ?_ 0 _ rfl; refine sqt ?_; exact BK203.out⟩
        have n4_ : Aside0 (IsS161 w0 ((w14.setCell ⟨gb203, 0, none⟩ (.int .i64 t200)).setCell ⟨gb203, 1, none⟩ (.int .i64 t201)) g s0_0 t202) := ⟨by repeat (first | (with_reducible first | exact HI0.out | apply IsS161.alloc | apply IsS161.drewN | apply IsS161.drew | apply IsS161.set_1 | refine IsS161.far ?_ NB0_194.out _ | refine IsS161.far ?_ NB0_195.out _ | refine IsS161.far ?_ NB0_199.out _ | refine IsS161.far ?_ NB0_203.out _) | exact HI0.out)⟩
        have n5_ : Aside0 (KeepBut w ((w14.setCell ⟨gb203, 0, none⟩ (.int .i64 t200)).setCell ⟨gb203, 1, none⟩ (.int .i64 t201)) g none) := ⟨by repeat (first | (with_reducible first | exact HK.out | apply KeepBut.set_ | apply keep_drewN | apply keep_drew | apply keep_alloc | refine keep_far ?_ GW194.out _ | refine keep_far ?_ GW195.out _ | refine keep_far ?_ GW199.out _ | refine keep_far ?_ GW203.out _) | exact HK.out)⟩
        have n6_ : Aside0 (Below w0.heap.size w0 ((w14.setCell ⟨gb203, 0, none⟩ (.int .i64 t200)).setCell ⟨gb203, 1, none⟩ (.int .i64 t201))) := ⟨by repeat (first | (with_reducible first | exact HB.out | apply below_alloc | apply pw_below_drewN | apply below_drew1 | refine below_set ?_ (IsS161.ge HI0.out) | refine below_set ?_ GE194.out | refine below_set ?_ GE195.out | refine below_set ?_ GE199.out | refine below_set ?_ GE203.out) | exact HB.out)⟩
        (try clear BK194)
        (try clear BK195)
        (try clear BK199)
        (try clear BK203)
        (try clear HI0)
        (try clear HK)
        (try clear HB)
        generalize ((w14.setCell ⟨gb203, 0, none⟩ (.int .i64 t200)).setCell ⟨gb203, 1, none⟩ (.int .i64 t201)) = w30 at n0_ n1_ n2_ n3_ n4_ n5_ n6_ ⊢
        have BK194 := n0_
        have BK195 := n1_
        have BK199 := n2_
        have BK203 := n3_
        have HI0 := n4_
        have HK := n5_
        have HB := n6_
        clear n0_ n1_ n2_ n3_ n4_ n5_ n6_
        replace BK194 := Aside0.mk (blk_drew BK194.out)
        replace BK195 := Aside0.mk (blk_drew BK195.out)
        replace BK199 := Aside0.mk (blk_drew BK199.out)
        replace BK203 := Aside0.mk (blk_drew BK203.out)
        replace HI0 := Aside0.mk (IsS161.drew HI0.out)
        replace HK := Aside0.mk (keep_drew HK.out)
        replace HB := Aside0.mk (below_drew1 HB.out)
        refine start_ (n := 12) (S := fun w' => w'.cell? ⟨gb199, 0, none⟩ = some (.int .i64 t196) ∧ w'.cell? ⟨gb199, 1, none⟩ = some (.int .i64 t197)) (ds := []) #[false, false, false, false, false, false, false, false, false, false, false, false] (by kernel_rfl) rfl rfl ⟨(blk_cell BK199.out 0).trans rfl, (blk_cell BK199.out 1).trans rfl⟩ (fun hHeld => ?_); refine with_tabW spec_l8Two.tab3 spec_l8Two.bits3 (fun HT_ HW_ => ?_)
        generalize w30.drew = w31 at BK194 BK195 BK199 BK203 HI0 HK HB hHeld ⊢
        refine sqp HT_ 0 10 ?_
        refine sqo HT_ 1 11 (fun K hK => ?_)
        refine sqG Try.func109 #[.pointer (some ⟨g, 0, none⟩), .int .i64 3] ?_
        with_reducible refine (spec_l1Rd_pick.calls k g s0_0 t202 3 t204 t205 w0 _ ?side1 ?side2 A20.out).mono ?_
        (case side1 => repeat (first | (with_reducible first | exact HI0.out | apply IsS161.alloc | apply IsS161.drewN | apply IsS161.drew | apply IsS161.set_1 | refine IsS161.far ?_ NB0_194.out _ | refine IsS161.far ?_ NB0_195.out _ | refine IsS161.far ?_ NB0_199.out _ | refine IsS161.far ?_ NB0_203.out _) | exact HI0.out))
        (case side2 => repeat (first | (with_reducible first | exact HB.out | apply below_alloc | apply pw_below_drewN | apply below_drew1 | refine below_set ?_ (IsS161.ge HI0.out) | refine below_set ?_ GE194.out | refine below_set ?_ GE195.out | refine below_set ?_ GE199.out | refine below_set ?_ GE203.out) | exact HB.out))
        rintro e w32 ⟨rfl, hi, hb, hk⟩
        refine ⟨_, rfl, ?_⟩
        have n0_ := Aside0.mk (KeepBut.blk hk (g' := gb194) (o := .cells #[.int .i64 0, .int .i64 0] 24 (0, 0)) (by refine sqt ?_; exact BK194.out) NB194_0.out (by simp))
        have n1_ := Aside0.mk (KeepBut.blk hk (g' := gb195) (o := .cells #[.int .i64 0, .int .i64 0] 24 (0, 0)) (by refine sqt ?_; exact BK195.out) NB195_0.out (by simp))
        have n2_ := Aside0.mk (KeepBut.blk hk (g' := gb199) (o := .cells #[.int .i64 t196, .int .i64 t197] 24 (0, 0)) (by refine sqt ?_; exact BK199.out) NB199_0.out (by simp))
        have n3_ := Aside0.mk (KeepBut.blk hk (g' := gb203) (o := .cells #[.int .i64 t200, .int .i64 t201] 24 (0, 0)) (by refine sqt ?_; exact BK203.out) NB203_0.out (by simp))
        have n4_ := Aside0.mk (KeepBut.trans (by repeat (first | (with_reducible first | exact HK.out | apply KeepBut.set_ | apply keep_drewN | apply keep_drew | apply keep_alloc | refine keep_far ?_ GW194.out _ | refine keep_far ?_ GW195.out _ | refine keep_far ?_ GW199.out _ | refine keep_far ?_ GW203.out _) | exact HK.out)) hk (.inl rfl))
        have n5_ := Aside0.mk (hb)
        have n6_ := Aside0.mk (hi)
        clear BK194
        clear BK195
        clear BK199
        clear BK203
        clear HK
        clear HB
        clear HI0
        have BK194 := n0_
        have BK195 := n1_
        have BK199 := n2_
        have BK203 := n3_
        have HK := n4_
        have HB := n5_
        have HI0 := n6_
        clear n0_ n1_ n2_ n3_ n4_ n5_ n6_
        (try clear hb)
        (try clear hb2)
        (try clear hk)
        (try clear hi)
        refine hK.out _ _ sqz (fun hHeld => ?_)
        clear hK K
        refine sqnm ?_
        refine sqp HT_ 2 12 ?_
        refine sqp HT_ 3 13 ?_
        refine sqw HT_ HW_ 4 14 hHeld ?_
        refine sqo HT_ 5 15 (fun K hK => ?_)
        refine sqG Try.func45 #[.agg #[.int .i64 t196, .int .i64 t197]] ?_
        with_reducible refine (spec_RangeOk.calls t196 t197 false _ A22.out).mono ?_
        rintro e w33 ⟨rfl, hb⟩
        refine ⟨_, rfl, ?_⟩
        have n0_ := Aside0.mk (IsS161.below (by repeat (first | (with_reducible first | exact HI0.out | apply IsS161.alloc | apply IsS161.drewN | apply IsS161.drew | apply IsS161.set_1 | refine IsS161.far ?_ NB0_194.out _ | refine IsS161.far ?_ NB0_195.out _ | refine IsS161.far ?_ NB0_199.out _ | refine IsS161.far ?_ NB0_203.out _) | exact HI0.out)) hb)
        have n1_ := sqb BK194 hb
        have n2_ := sqb BK195 hb
        have n3_ := sqb BK199 hb
        have n4_ := sqb BK203 hb
        have n5_ := Aside0.mk (KeepBut.trans (by repeat (first | (with_reducible first | exact HK.out | apply KeepBut.set_ | apply keep_drewN | apply keep_drew | apply keep_alloc | refine keep_far ?_ GW194.out _ | refine keep_far ?_ GW195.out _ | refine keep_far ?_ GW199.out _ | refine keep_far ?_ GW203.out _) | exact HK.out)) (KeepBut.of_below hb g none) (.inl rfl))
        have n6_ := Aside0.mk (below_step (by repeat (first | (with_reducible first | exact HB.out | apply below_alloc | apply pw_below_drewN | apply below_drew1 | refine below_set ?_ (IsS161.ge HI0.out) | refine below_set ?_ GE194.out | refine below_set ?_ GE195.out | refine below_set ?_ GE199.out | refine below_set ?_ GE203.out) | exact HB.out)) hb)
        clear HI0
        clear BK194
        clear BK195
        clear BK199
        clear BK203
        clear HK
        clear HB
        have HI0 := n0_
        have BK194 := n1_
        have BK195 := n2_
        have BK199 := n3_
        have BK203 := n4_
        have HK := n5_
        have HB := n6_
        clear n0_ n1_ n2_ n3_ n4_ n5_ n6_
        (try clear hb)
        refine hK.out _ _ sqz (fun hHeld => ?_)
        clear hK K
        refine sqnm ?_
        refine sqp HT_ 6 16 ?_
        refine sqp HT_ 7 17 ?_
        refine sqpu HT_ 8 18 ?_
        refine sqpu HT_ 9 19 ?_
        refine sqpu HT_ 10 20 ?_
        refine sqp HT_ 11 21 ?_
        refine done_ (done_of HT_.out (by kernel_rfl)) ?_
        try go_wp2
        go_meet
        case rel => exact ⟨_, (false), (t205), (by first | rfl | (simp; done) | (simp [*]; done)), H', ⟨by first | omega | exact Nat.le_refl _⟩, sqk BK194, sqk BK195, sqk BK199, sqk BK203, ⟨by repeat (first | (with_reducible first | exact HI0.out | apply IsS161.alloc | apply IsS161.drewN | apply IsS161.drew | apply IsS161.set_1 | refine IsS161.far ?_ NB0_194.out _ | refine IsS161.far ?_ NB0_195.out _ | refine IsS161.far ?_ NB0_199.out _ | refine IsS161.far ?_ NB0_203.out _) | exact HI0.out)⟩, ⟨by repeat (first | (with_reducible first | exact HK.out | apply KeepBut.set_ | apply keep_drewN | apply keep_drew | apply keep_alloc | refine keep_far ?_ GW194.out _ | refine keep_far ?_ GW195.out _ | refine keep_far ?_ GW199.out _ | refine keep_far ?_ GW203.out _) | exact HK.out)⟩, ⟨by repeat (first | (with_reducible first | exact HB.out | apply below_alloc | apply pw_below_drewN | apply below_drew1 | refine below_set ?_ (IsS161.ge HI0.out) | refine below_set ?_ GE194.out | refine below_set ?_ GE195.out | refine below_set ?_ GE199.out | refine below_set ?_ GE203.out) | exact HB.out)⟩⟩
    · rw [if_neg c21] at H
      have c21b0 : (t204 == 0) = false := beq_eq_false_iff_ne.mpr c21
      have c21b1 : (t204 != 0) = true := bne_iff_ne.mpr c21
      (first | rw [c21b0] | (simp only [i64_w, i32_w]; rw [c21b0]) | skip)
      have H' := Aside0.mk H
      clear H
      try go_wp2
      have n0_ : Aside0 (((w14.setCell ⟨gb203, 0, none⟩ (.int .i64 t200)).setCell ⟨gb203, 1, none⟩ (.int .i64 t201)).heap[gb194]? = some (.cells #[.int .i64 0, .int .i64 0] 24 (0, 0))) := ⟨by refine sqt ?_; refine blk_far ?_ NB194_203.out _; refine sqt ?_; refine blk_far ?_ NB194_203.out _; refine sqt ?_; exact BK194.out⟩
      have n1_ : Aside0 (((w14.setCell ⟨gb203, 0, none⟩ (.int .i64 t200)).setCell ⟨gb203, 1, none⟩ (.int .i64 t201)).heap[gb195]? = some (.cells #[.int .i64 0, .int .i64 0] 24 (0, 0))) := ⟨by refine sqt ?_; refine blk_far ?_ NB195_203.out _; refine sqt ?_; refine blk_far ?_ NB195_203.out _; refine sqt ?_; exact BK195.out⟩
      have n2_ : Aside0 (((w14.setCell ⟨gb203, 0, none⟩ (.int .i64 t200)).setCell ⟨gb203, 1, none⟩ (.int .i64 t201)).heap[gb199]? = some (.cells #[.int .i64 t196, .int .i64 t197] 24 (0, 0))) := ⟨by refine sqt ?_; refine blk_far ?_ NB199_203.out _; refine sqt ?_; refine blk_far ?_ NB199_203.out _; refine sqt ?_; exact BK199.out⟩
      have n3_ : Aside0 (((w14.setCell ⟨gb203, 0, none⟩ (.int .i64 t200)).setCell ⟨gb203, 1, none⟩ (.int .i64 t201)).heap[gb203]? = some (.cells #[.int .i64 t200, .int .i64 t201] 24 (0, 0))) := ⟨by refine sqt ?_; refine blk_put (cs := #[.int .i64 t200, .int .i64 0]) ?_ 1 _ rfl; refine sqt ?_; refine blk_put (cs := #[.int .i64 0, .int .i64 0]) ?_ 0 _ rfl; refine sqt ?_; exact BK203.out⟩
      have n4_ : Aside0 (IsS161 w0 ((w14.setCell ⟨gb203, 0, none⟩ (.int .i64 t200)).setCell ⟨gb203, 1, none⟩ (.int .i64 t201)) g s0_0 t202) := ⟨by repeat (first | (with_reducible first | exact HI0.out | apply IsS161.alloc | apply IsS161.drewN | apply IsS161.drew | apply IsS161.set_1 | refine IsS161.far ?_ NB0_194.out _ | refine IsS161.far ?_ NB0_195.out _ | refine IsS161.far ?_ NB0_199.out _ | refine IsS161.far ?_ NB0_203.out _) | exact HI0.out)⟩
      have n5_ : Aside0 (KeepBut w ((w14.setCell ⟨gb203, 0, none⟩ (.int .i64 t200)).setCell ⟨gb203, 1, none⟩ (.int .i64 t201)) g none) := ⟨by repeat (first | (with_reducible first | exact HK.out | apply KeepBut.set_ | apply keep_drewN | apply keep_drew | apply keep_alloc | refine keep_far ?_ GW194.out _ | refine keep_far ?_ GW195.out _ | refine keep_far ?_ GW199.out _ | refine keep_far ?_ GW203.out _) | exact HK.out)⟩
      have n6_ : Aside0 (Below w0.heap.size w0 ((w14.setCell ⟨gb203, 0, none⟩ (.int .i64 t200)).setCell ⟨gb203, 1, none⟩ (.int .i64 t201))) := ⟨by repeat (first | (with_reducible first | exact HB.out | apply below_alloc | apply pw_below_drewN | apply below_drew1 | refine below_set ?_ (IsS161.ge HI0.out) | refine below_set ?_ GE194.out | refine below_set ?_ GE195.out | refine below_set ?_ GE199.out | refine below_set ?_ GE203.out) | exact HB.out)⟩
      (try clear BK194)
      (try clear BK195)
      (try clear BK199)
      (try clear BK203)
      (try clear HI0)
      (try clear HK)
      (try clear HB)
      generalize ((w14.setCell ⟨gb203, 0, none⟩ (.int .i64 t200)).setCell ⟨gb203, 1, none⟩ (.int .i64 t201)) = w34 at n0_ n1_ n2_ n3_ n4_ n5_ n6_ ⊢
      have BK194 := n0_
      have BK195 := n1_
      have BK199 := n2_
      have BK203 := n3_
      have HI0 := n4_
      have HK := n5_
      have HB := n6_
      clear n0_ n1_ n2_ n3_ n4_ n5_ n6_
      replace BK194 := Aside0.mk (blk_drew BK194.out)
      replace BK195 := Aside0.mk (blk_drew BK195.out)
      replace BK199 := Aside0.mk (blk_drew BK199.out)
      replace BK203 := Aside0.mk (blk_drew BK203.out)
      replace HI0 := Aside0.mk (IsS161.drew HI0.out)
      replace HK := Aside0.mk (keep_drew HK.out)
      replace HB := Aside0.mk (below_drew1 HB.out)
      refine start_ (n := 12) (S := fun w' => True) (ds := []) #[false, false, false, false, false, false, false, false, false, false, false, false] (by kernel_rfl) rfl rfl trivial (fun hHeld => ?_); refine with_tabW spec_l8Two.tab3 spec_l8Two.bits3 (fun HT_ HW_ => ?_)
      generalize w34.drew = w35 at BK194 BK195 BK199 BK203 HI0 HK HB hHeld ⊢
      refine sqp HT_ 0 10 ?_
      refine sqo HT_ 1 11 (fun K hK => ?_)
      refine sqG Try.func109 #[.pointer (some ⟨g, 0, none⟩), .int .i64 3] ?_
      with_reducible refine (spec_l1Rd_pick.calls k g s0_0 t202 3 t204 t205 w0 _ ?side1 ?side2 A20.out).mono ?_
      (case side1 => repeat (first | (with_reducible first | exact HI0.out | apply IsS161.alloc | apply IsS161.drewN | apply IsS161.drew | apply IsS161.set_1 | refine IsS161.far ?_ NB0_194.out _ | refine IsS161.far ?_ NB0_195.out _ | refine IsS161.far ?_ NB0_199.out _ | refine IsS161.far ?_ NB0_203.out _) | exact HI0.out))
      (case side2 => repeat (first | (with_reducible first | exact HB.out | apply below_alloc | apply pw_below_drewN | apply below_drew1 | refine below_set ?_ (IsS161.ge HI0.out) | refine below_set ?_ GE194.out | refine below_set ?_ GE195.out | refine below_set ?_ GE199.out | refine below_set ?_ GE203.out) | exact HB.out))
      rintro e w36 ⟨rfl, hi, hb, hk⟩
      refine ⟨_, rfl, ?_⟩
      have n0_ := Aside0.mk (KeepBut.blk hk (g' := gb194) (o := .cells #[.int .i64 0, .int .i64 0] 24 (0, 0)) (by refine sqt ?_; exact BK194.out) NB194_0.out (by simp))
      have n1_ := Aside0.mk (KeepBut.blk hk (g' := gb195) (o := .cells #[.int .i64 0, .int .i64 0] 24 (0, 0)) (by refine sqt ?_; exact BK195.out) NB195_0.out (by simp))
      have n2_ := Aside0.mk (KeepBut.blk hk (g' := gb199) (o := .cells #[.int .i64 t196, .int .i64 t197] 24 (0, 0)) (by refine sqt ?_; exact BK199.out) NB199_0.out (by simp))
      have n3_ := Aside0.mk (KeepBut.blk hk (g' := gb203) (o := .cells #[.int .i64 t200, .int .i64 t201] 24 (0, 0)) (by refine sqt ?_; exact BK203.out) NB203_0.out (by simp))
      have n4_ := Aside0.mk (KeepBut.trans (by repeat (first | (with_reducible first | exact HK.out | apply KeepBut.set_ | apply keep_drewN | apply keep_drew | apply keep_alloc | refine keep_far ?_ GW194.out _ | refine keep_far ?_ GW195.out _ | refine keep_far ?_ GW199.out _ | refine keep_far ?_ GW203.out _) | exact HK.out)) hk (.inl rfl))
      have n5_ := Aside0.mk (hb)
      have n6_ := Aside0.mk (hi)
      clear BK194
      clear BK195
      clear BK199
      clear BK203
      clear HK
      clear HB
      clear HI0
      have BK194 := n0_
      have BK195 := n1_
      have BK199 := n2_
      have BK203 := n3_
      have HK := n4_
      have HB := n5_
      have HI0 := n6_
      clear n0_ n1_ n2_ n3_ n4_ n5_ n6_
      (try clear hb)
      (try clear hb2)
      (try clear hk)
      (try clear hi)
      refine hK.out _ _ trivial (fun hHeld => ?_)
      clear hK K
      refine sqnm ?_
      refine sqp HT_ 2 12 ?_
      refine sqp HT_ 3 13 ?_
      refine sqpu HT_ 4 14 ?_
      refine sqpu HT_ 5 15 ?_
      refine sqp HT_ 6 16 ?_
      refine sqp HT_ 7 17 ?_
      refine sqpu HT_ 8 18 ?_
      refine sqpu HT_ 9 19 ?_
      refine sqpu HT_ 10 20 ?_
      refine sqp HT_ 11 21 ?_
      refine done_ (done_of HT_.out (by kernel_rfl)) ?_
      try go_wp2
      go_meet
      case rel => exact ⟨_, (false), (t205), (by first | rfl | (simp; done) | (simp [*]; done)), H', ⟨by first | omega | exact Nat.le_refl _⟩, sqk BK194, sqk BK195, sqk BK199, sqk BK203, ⟨by repeat (first | (with_reducible first | exact HI0.out | apply IsS161.alloc | apply IsS161.drewN | apply IsS161.drew | apply IsS161.set_1 | refine IsS161.far ?_ NB0_194.out _ | refine IsS161.far ?_ NB0_195.out _ | refine IsS161.far ?_ NB0_199.out _ | refine IsS161.far ?_ NB0_203.out _) | exact HI0.out)⟩, ⟨by repeat (first | (with_reducible first | exact HK.out | apply KeepBut.set_ | apply keep_drewN | apply keep_drew | apply keep_alloc | refine keep_far ?_ GW194.out _ | refine keep_far ?_ GW195.out _ | refine keep_far ?_ GW199.out _ | refine keep_far ?_ GW203.out _) | exact HK.out)⟩, ⟨by repeat (first | (with_reducible first | exact HB.out | apply below_alloc | apply pw_below_drewN | apply below_drew1 | refine below_set ?_ (IsS161.ge HI0.out) | refine below_set ?_ GE194.out | refine below_set ?_ GE195.out | refine below_set ?_ GE199.out | refine below_set ?_ GE203.out) | exact HB.out)⟩⟩
  case rest =>
    clear HC4
    obtain ⟨kq, x21_3, x1001_3, rfl, HA, HJ3, BK194, BK195, BK199, BK203, HI0, HK, HB⟩ := hcut
    cases kq with
    | zero => exact absurd HA.out (by simp [spec_l8Two.j0])
    | succ kj3 =>
      have H := HA.out
      clear HA
      simp only [spec_l8Two.j0] at H
      by_cases c37 : x21_3 = true
      · subst c37
        have H1 : ((spec_l1Rd_pick.f kj3 s0_0 x1001_3 9).bind fun bt209 => ((spec_l1Rd_pick.f kj3 s0_0 bt209.2 9).bind fun bt211 => ((spec_l8Cut.f (wrap64 ((wrap64 (t196 + bt209.1)) - 4)) (wrap64 ((wrap64 (t197 + bt211.1)) - 4))).bind fun bt213 => (some (t196, t197, bt213.1, bt213.2, bt211.2))))) = some (r1, r2, r3, r4, r5) := by rw [if_pos rfl] at H; exact H
        clear H
        have H := H1
        clear H1
        replace H := Option.bind_eq_some_iff.mp H
        obtain ⟨⟨t209, t210⟩, A380, H⟩ := H
        replace H : ((spec_l1Rd_pick.f kj3 s0_0 t210 9).bind fun bt211 => ((spec_l8Cut.f (wrap64 ((wrap64 (t196 + t209)) - 4)) (wrap64 ((wrap64 (t197 + bt211.1)) - 4))).bind fun bt213 => (some (t196, t197, bt213.1, bt213.2, bt211.2)))) = some (r1, r2, r3, r4, r5) := H
        have A38 := Aside0.mk A380
        clear A380
        replace H := Option.bind_eq_some_iff.mp H
        obtain ⟨⟨t211, t212⟩, A390, H⟩ := H
        replace H : ((spec_l8Cut.f (wrap64 ((wrap64 (t196 + t209)) - 4)) (wrap64 ((wrap64 (t197 + t211)) - 4))).bind fun bt213 => (some (t196, t197, bt213.1, bt213.2, t212))) = some (r1, r2, r3, r4, r5) := H
        have A39 := Aside0.mk A390
        clear A390
        replace H := Option.bind_eq_some_iff.mp H
        obtain ⟨⟨t213, t214⟩, A400, H⟩ := H
        replace H : (some (t196, t197, t213, t214, t212)) = some (r1, r2, r3, r4, r5) := H
        have A40 := Aside0.mk A400
        clear A400
        simp only [Option.some.injEq, Prod.mk.injEq] at H
        obtain ⟨rfl, rfl, rfl, rfl, rfl⟩ := H
        try go_wp2
        replace BK194 := Aside0.mk (blk_drew BK194.out)
        replace BK195 := Aside0.mk (blk_drew BK195.out)
        replace BK199 := Aside0.mk (blk_drew BK199.out)
        replace BK203 := Aside0.mk (blk_drew BK203.out)
        replace HI0 := Aside0.mk (IsS161.drew HI0.out)
        replace HK := Aside0.mk (keep_drew HK.out)
        replace HB := Aside0.mk (below_drew1 HB.out)
        refine start_ (n := 14) (S := fun w' => w'.cell? ⟨gb199, 0, none⟩ = some (.int .i64 t196) ∧ w'.cell? ⟨gb199, 1, none⟩ = some (.int .i64 t197)) (ds := []) #[false, false, false, false, false, false, false, false, false, false, false, false, false, false] (by kernel_rfl) rfl rfl ⟨(blk_cell BK199.out 0).trans rfl, (blk_cell BK199.out 1).trans rfl⟩ (fun hHeld => ?_); refine with_tabW spec_l8Two.tab4 spec_l8Two.bits4 (fun HT_ HW_ => ?_)
        generalize wc.drew = w41 at BK194 BK195 BK199 BK203 HI0 HK HB hHeld ⊢
        refine sqp HT_ 0 22 ?_
        refine sqp HT_ 2 24 ?_
        refine sqp HT_ 6 28 ?_
        refine sqp HT_ 8 30 ?_
        refine sqw HT_ HW_ 1 23 hHeld ?_
        refine sqw HT_ HW_ 7 29 hHeld ?_
        refine sqo HT_ 3 25 (fun K hK => ?_)
        refine sqG Try.func109 #[.pointer (some ⟨g, 0, none⟩), .int .i64 9] ?_
        with_reducible refine (spec_l1Rd_pick.calls kj3 g s0_0 x1001_3 9 t209 t210 w0 _ ?side1 ?side2 A38.out).mono ?_
        (case side1 => repeat (first | (with_reducible first | exact HI0.out | apply IsS161.alloc | apply IsS161.drewN | apply IsS161.drew | apply IsS161.set_1 | refine IsS161.far ?_ NB0_194.out _ | refine IsS161.far ?_ NB0_195.out _ | refine IsS161.far ?_ NB0_199.out _ | refine IsS161.far ?_ NB0_203.out _) | exact HI0.out))
        (case side2 => repeat (first | (with_reducible first | exact HB.out | apply below_alloc | apply pw_below_drewN | apply below_drew1 | refine below_set ?_ (IsS161.ge HI0.out) | refine below_set ?_ GE194.out | refine below_set ?_ GE195.out | refine below_set ?_ GE199.out | refine below_set ?_ GE203.out) | exact HB.out))
        rintro e w42 ⟨rfl, hi, hb, hk⟩
        refine ⟨_, rfl, ?_⟩
        have n0_ := Aside0.mk (KeepBut.blk hk (g' := gb194) (o := .cells #[.int .i64 0, .int .i64 0] 24 (0, 0)) (by refine sqt ?_; exact BK194.out) NB194_0.out (by simp))
        have n1_ := Aside0.mk (KeepBut.blk hk (g' := gb195) (o := .cells #[.int .i64 0, .int .i64 0] 24 (0, 0)) (by refine sqt ?_; exact BK195.out) NB195_0.out (by simp))
        have n2_ := Aside0.mk (KeepBut.blk hk (g' := gb199) (o := .cells #[.int .i64 t196, .int .i64 t197] 24 (0, 0)) (by refine sqt ?_; exact BK199.out) NB199_0.out (by simp))
        have n3_ := Aside0.mk (KeepBut.blk hk (g' := gb203) (o := .cells #[.int .i64 t200, .int .i64 t201] 24 (0, 0)) (by refine sqt ?_; exact BK203.out) NB203_0.out (by simp))
        have n4_ := Aside0.mk (KeepBut.trans (by repeat (first | (with_reducible first | exact HK.out | apply KeepBut.set_ | apply keep_drewN | apply keep_drew | apply keep_alloc | refine keep_far ?_ GW194.out _ | refine keep_far ?_ GW195.out _ | refine keep_far ?_ GW199.out _ | refine keep_far ?_ GW203.out _) | exact HK.out)) hk (.inl rfl))
        have n5_ := Aside0.mk (hb)
        have n6_ := Aside0.mk (hi)
        clear BK194
        clear BK195
        clear BK199
        clear BK203
        clear HK
        clear HB
        clear HI0
        have BK194 := n0_
        have BK195 := n1_
        have BK199 := n2_
        have BK203 := n3_
        have HK := n4_
        have HB := n5_
        have HI0 := n6_
        clear n0_ n1_ n2_ n3_ n4_ n5_ n6_
        (try clear hb)
        (try clear hb2)
        (try clear hk)
        (try clear hi)
        refine hK.out _ _ sqz (fun hHeld => ?_)
        clear hK K
        refine sqnm ?_
        refine sqp HT_ 4 26 ?_
        refine sqp HT_ 5 27 ?_
        refine sqo HT_ 9 31 (fun K hK => ?_)
        refine sqG Try.func109 #[.pointer (some ⟨g, 0, none⟩), .int .i64 9] ?_
        with_reducible refine (spec_l1Rd_pick.calls kj3 g s0_0 t210 9 t211 t212 w0 _ ?side1 ?side2 A39.out).mono ?_
        (case side1 => repeat (first | (with_reducible first | exact HI0.out | apply IsS161.alloc | apply IsS161.drewN | apply IsS161.drew | apply IsS161.set_1 | refine IsS161.far ?_ NB0_194.out _ | refine IsS161.far ?_ NB0_195.out _ | refine IsS161.far ?_ NB0_199.out _ | refine IsS161.far ?_ NB0_203.out _) | exact HI0.out))
        (case side2 => repeat (first | (with_reducible first | exact HB.out | apply below_alloc | apply pw_below_drewN | apply below_drew1 | refine below_set ?_ (IsS161.ge HI0.out) | refine below_set ?_ GE194.out | refine below_set ?_ GE195.out | refine below_set ?_ GE199.out | refine below_set ?_ GE203.out) | exact HB.out))
        rintro e w43 ⟨rfl, hi, hb, hk⟩
        refine ⟨_, rfl, ?_⟩
        have n0_ := Aside0.mk (KeepBut.blk hk (g' := gb194) (o := .cells #[.int .i64 0, .int .i64 0] 24 (0, 0)) (by refine sqt ?_; exact BK194.out) NB194_0.out (by simp))
        have n1_ := Aside0.mk (KeepBut.blk hk (g' := gb195) (o := .cells #[.int .i64 0, .int .i64 0] 24 (0, 0)) (by refine sqt ?_; exact BK195.out) NB195_0.out (by simp))
        have n2_ := Aside0.mk (KeepBut.blk hk (g' := gb199) (o := .cells #[.int .i64 t196, .int .i64 t197] 24 (0, 0)) (by refine sqt ?_; exact BK199.out) NB199_0.out (by simp))
        have n3_ := Aside0.mk (KeepBut.blk hk (g' := gb203) (o := .cells #[.int .i64 t200, .int .i64 t201] 24 (0, 0)) (by refine sqt ?_; exact BK203.out) NB203_0.out (by simp))
        have n4_ := Aside0.mk (KeepBut.trans (by repeat (first | (with_reducible first | exact HK.out | apply KeepBut.set_ | apply keep_drewN | apply keep_drew | apply keep_alloc | refine keep_far ?_ GW194.out _ | refine keep_far ?_ GW195.out _ | refine keep_far ?_ GW199.out _ | refine keep_far ?_ GW203.out _) | exact HK.out)) hk (.inl rfl))
        have n5_ := Aside0.mk (hb)
        have n6_ := Aside0.mk (hi)
        clear BK194
        clear BK195
        clear BK199
        clear BK203
        clear HK
        clear HB
        clear HI0
        have BK194 := n0_
        have BK195 := n1_
        have BK199 := n2_
        have BK203 := n3_
        have HK := n4_
        have HB := n5_
        have HI0 := n6_
        clear n0_ n1_ n2_ n3_ n4_ n5_ n6_
        (try clear hb)
        (try clear hb2)
        (try clear hk)
        (try clear hi)
        refine hK.out _ _ sqz (fun hHeld => ?_)
        clear hK K
        refine sqnm ?_
        refine sqp HT_ 10 32 ?_
        refine sqp HT_ 11 33 ?_
        refine sqo HT_ 12 34 (fun K hK => ?_)
        refine sqG Try.func133 #[.int .i64 (wrap64 ((wrap64 (t196 + t209)) - 4)), .int .i64 (wrap64 ((wrap64 (t197 + t211)) - 4))] ?_
        with_reducible refine (spec_l8Cut.calls (wrap64 ((wrap64 (t196 + t209)) - 4)) (wrap64 ((wrap64 (t197 + t211)) - 4)) t213 t214 _ A40.out).mono ?_
        rintro e w44 ⟨rfl, hb⟩
        refine ⟨_, rfl, ?_⟩
        have n0_ := sqb BK194 hb
        have n1_ := sqb BK195 hb
        have n2_ := sqb BK199 hb
        have n3_ := sqb BK203 hb
        have n4_ := Aside0.mk (IsS161.below (by repeat (first | (with_reducible first | exact HI0.out | apply IsS161.alloc | apply IsS161.drewN | apply IsS161.drew | apply IsS161.set_1 | refine IsS161.far ?_ NB0_194.out _ | refine IsS161.far ?_ NB0_195.out _ | refine IsS161.far ?_ NB0_199.out _ | refine IsS161.far ?_ NB0_203.out _) | exact HI0.out)) hb)
        have n5_ := Aside0.mk (KeepBut.trans (by repeat (first | (with_reducible first | exact HK.out | apply KeepBut.set_ | apply keep_drewN | apply keep_drew | apply keep_alloc | refine keep_far ?_ GW194.out _ | refine keep_far ?_ GW195.out _ | refine keep_far ?_ GW199.out _ | refine keep_far ?_ GW203.out _) | exact HK.out)) (KeepBut.of_below hb g none) (.inl rfl))
        have n6_ := Aside0.mk (below_step (by repeat (first | (with_reducible first | exact HB.out | apply below_alloc | apply pw_below_drewN | apply below_drew1 | refine below_set ?_ (IsS161.ge HI0.out) | refine below_set ?_ GE194.out | refine below_set ?_ GE195.out | refine below_set ?_ GE199.out | refine below_set ?_ GE203.out) | exact HB.out)) hb)
        clear BK194
        clear BK195
        clear BK199
        clear BK203
        clear HI0
        clear HK
        clear HB
        have BK194 := n0_
        have BK195 := n1_
        have BK199 := n2_
        have BK203 := n3_
        have HI0 := n4_
        have HK := n5_
        have HB := n6_
        clear n0_ n1_ n2_ n3_ n4_ n5_ n6_
        (try clear hb)
        refine hK.out _ _ sqz (fun hHeld => ?_)
        clear hK K
        refine sqnm ?_
        refine one_ (i := 13) (N := none) #[true, true, true, true, true, true, true, true, true, true, true, true, true, true] rfl rfl (one_of HT_.out (by kernel_rfl)) (by decide) (fun K hK => ?_)
        have hs45 : w44.cell? ⟨gb203, 0, none⟩ = some (.int .i64 t200) := (blk_cell BK203.out 0).trans rfl
        have hfs45 := blk_frozen BK203.out 0
        have hns45_0 := NB194_203.out
        have hns45_1 := NB195_203.out
        have hns45_2 := NB199_203.out
        have hms45_0 := NB203_194.out
        have hms45_1 := NB203_195.out
        have hms45_2 := NB203_199.out
        have hs46 : w44.cell? ⟨gb203, 1, none⟩ = some (.int .i64 t201) := (blk_cell BK203.out 1).trans rfl
        have hfs46 := blk_frozen BK203.out 1
        have hns46_0 := NB194_203.out
        have hns46_1 := NB195_203.out
        have hns46_2 := NB199_203.out
        have hms46_0 := NB203_194.out
        have hms46_1 := NB203_195.out
        have hms46_2 := NB203_199.out
        refine skip_ (w1 := ?_) (by rfl) rfl ?_ ?_
        rotate_left
        · go_simp
          rfl
        refine hK.out _ _ ⟨((cell_far (p := ⟨gb203, _, none⟩) NB199_203.out _).trans (((cell_far (p := ⟨gb203, _, none⟩) NB199_203.out _).trans (hHeld.1)))), ((cell_far (p := ⟨gb203, _, none⟩) NB199_203.out _).trans (((cell_far (p := ⟨gb203, _, none⟩) NB199_203.out _).trans (hHeld.2))))⟩ (fun hHeld => ?_)
        clear hK K
        refine done_ (done_of HT_.out (by kernel_rfl)) ?_
        try go_wp2
        have n0_ : Aside0 (((w44.setCell ⟨gb203, 0, none⟩ (.int .i64 t213)).setCell ⟨gb203, 1, none⟩ (.int .i64 t214)).heap[gb194]? = some (.cells #[.int .i64 0, .int .i64 0] 24 (0, 0))) := ⟨by refine sqt ?_; refine blk_far ?_ NB194_203.out _; refine sqt ?_; refine blk_far ?_ NB194_203.out _; refine sqt ?_; exact BK194.out⟩
        have n1_ : Aside0 (((w44.setCell ⟨gb203, 0, none⟩ (.int .i64 t213)).setCell ⟨gb203, 1, none⟩ (.int .i64 t214)).heap[gb195]? = some (.cells #[.int .i64 0, .int .i64 0] 24 (0, 0))) := ⟨by refine sqt ?_; refine blk_far ?_ NB195_203.out _; refine sqt ?_; refine blk_far ?_ NB195_203.out _; refine sqt ?_; exact BK195.out⟩
        have n2_ : Aside0 (((w44.setCell ⟨gb203, 0, none⟩ (.int .i64 t213)).setCell ⟨gb203, 1, none⟩ (.int .i64 t214)).heap[gb199]? = some (.cells #[.int .i64 t196, .int .i64 t197] 24 (0, 0))) := ⟨by refine sqt ?_; refine blk_far ?_ NB199_203.out _; refine sqt ?_; refine blk_far ?_ NB199_203.out _; refine sqt ?_; exact BK199.out⟩
        have n3_ : Aside0 (((w44.setCell ⟨gb203, 0, none⟩ (.int .i64 t213)).setCell ⟨gb203, 1, none⟩ (.int .i64 t214)).heap[gb203]? = some (.cells #[.int .i64 t213, .int .i64 t214] 24 (0, 0))) := ⟨by refine sqt ?_; refine blk_put (cs := #[.int .i64 t213, .int .i64 t201]) ?_ 1 _ rfl; refine sqt ?_; refine blk_put (cs := #[.int .i64 t200, .int .i64 t201]) ?_ 0 _ rfl; refine sqt ?_; exact BK203.out⟩
        have n4_ : Aside0 (IsS161 w0 ((w44.setCell ⟨gb203, 0, none⟩ (.int .i64 t213)).setCell ⟨gb203, 1, none⟩ (.int .i64 t214)) g s0_0 t212) := ⟨by repeat (first | (with_reducible first | exact HI0.out | apply IsS161.alloc | apply IsS161.drewN | apply IsS161.drew | apply IsS161.set_1 | refine IsS161.far ?_ NB0_194.out _ | refine IsS161.far ?_ NB0_195.out _ | refine IsS161.far ?_ NB0_199.out _ | refine IsS161.far ?_ NB0_203.out _) | exact HI0.out)⟩
        have n5_ : Aside0 (KeepBut w ((w44.setCell ⟨gb203, 0, none⟩ (.int .i64 t213)).setCell ⟨gb203, 1, none⟩ (.int .i64 t214)) g none) := ⟨by repeat (first | (with_reducible first | exact HK.out | apply KeepBut.set_ | apply keep_drewN | apply keep_drew | apply keep_alloc | refine keep_far ?_ GW194.out _ | refine keep_far ?_ GW195.out _ | refine keep_far ?_ GW199.out _ | refine keep_far ?_ GW203.out _) | exact HK.out)⟩
        have n6_ : Aside0 (Below w0.heap.size w0 ((w44.setCell ⟨gb203, 0, none⟩ (.int .i64 t213)).setCell ⟨gb203, 1, none⟩ (.int .i64 t214))) := ⟨by repeat (first | (with_reducible first | exact HB.out | apply below_alloc | apply pw_below_drewN | apply below_drew1 | refine below_set ?_ (IsS161.ge HI0.out) | refine below_set ?_ GE194.out | refine below_set ?_ GE195.out | refine below_set ?_ GE199.out | refine below_set ?_ GE203.out) | exact HB.out)⟩
        (try clear BK194)
        (try clear BK195)
        (try clear BK199)
        (try clear BK203)
        (try clear HI0)
        (try clear HK)
        (try clear HB)
        generalize ((w44.setCell ⟨gb203, 0, none⟩ (.int .i64 t213)).setCell ⟨gb203, 1, none⟩ (.int .i64 t214)) = w47 at n0_ n1_ n2_ n3_ n4_ n5_ n6_ ⊢
        have BK194 := n0_
        have BK195 := n1_
        have BK199 := n2_
        have BK203 := n3_
        have HI0 := n4_
        have HK := n5_
        have HB := n6_
        clear n0_ n1_ n2_ n3_ n4_ n5_ n6_
        replace BK194 := Aside0.mk (blk_drew BK194.out)
        replace BK195 := Aside0.mk (blk_drew BK195.out)
        replace BK199 := Aside0.mk (blk_drew BK199.out)
        replace BK203 := Aside0.mk (blk_drew BK203.out)
        replace HI0 := Aside0.mk (IsS161.drew HI0.out)
        replace HK := Aside0.mk (keep_drew HK.out)
        replace HB := Aside0.mk (below_drew1 HB.out)
        refine start_ (n := 4) (S := fun w' => w'.cell? ⟨gb199, 0, none⟩ = some (.int .i64 t196) ∧ w'.cell? ⟨gb199, 1, none⟩ = some (.int .i64 t197) ∧ w'.cell? ⟨gb203, 0, none⟩ = some (.int .i64 t213) ∧ w'.cell? ⟨gb203, 1, none⟩ = some (.int .i64 t214)) (ds := []) #[false, false, false, false] (by kernel_rfl) rfl rfl ⟨(blk_cell BK199.out 0).trans rfl, (blk_cell BK199.out 1).trans rfl, (blk_cell BK203.out 0).trans rfl, (blk_cell BK203.out 1).trans rfl⟩ (fun hHeld => ?_)
        generalize w47.drew = w48 at BK194 BK195 BK199 BK203 HI0 HK HB hHeld ⊢
        refine take_ (i := 0) (N := some 35) (v := ?_) (a' := ?_) #[true, false, false, false] rfl rfl (by kernel_rfl) (fun _ _ _ h => h) (Or.inl ⟨by rfl, ?_⟩) hHeld ?_ ?_
        rotate_left
        · rintro w' ⟨s0, s1, s2, s3⟩
          go_simp
          with_reducible rfl
        rotate_left
        · simp only [Act.put, List.setIfInBounds_toArray, List.set_cons_zero, List.set_cons_succ, i64_w, i32_w]
          rfl
        refine take_ (i := 1) (N := some 36) (v := ?_) (a' := ?_) #[true, true, false, false] rfl rfl (by kernel_rfl) (fun _ _ _ h => h) (Or.inl ⟨by rfl, ?_⟩) hHeld ?_ ?_
        rotate_left
        · rintro w' ⟨s0, s1, s2, s3⟩
          go_simp
          with_reducible rfl
        rotate_left
        · simp only [Act.put, List.setIfInBounds_toArray, List.set_cons_zero, List.set_cons_succ, i64_w, i32_w]
          rfl
        refine one_ (i := 2) (N := none) #[true, true, true, false] rfl rfl (by kernel_rfl) (by decide) (fun K hK => ?_)
        have hs49 : w48.cell? ⟨gb194, 0, none⟩ = some (.int .i64 0) := (blk_cell BK194.out 0).trans rfl
        have hfs49 := blk_frozen BK194.out 0
        have hns49_1 := NB195_194.out
        have hns49_2 := NB199_194.out
        have hns49_3 := NB203_194.out
        have hms49_1 := NB194_195.out
        have hms49_2 := NB194_199.out
        have hms49_3 := NB194_203.out
        have hs50 : w48.cell? ⟨gb194, 1, none⟩ = some (.int .i64 0) := (blk_cell BK194.out 1).trans rfl
        have hfs50 := blk_frozen BK194.out 1
        have hns50_1 := NB195_194.out
        have hns50_2 := NB199_194.out
        have hns50_3 := NB203_194.out
        have hms50_1 := NB194_195.out
        have hms50_2 := NB194_199.out
        have hms50_3 := NB194_203.out
        refine skip_ (w1 := ?_) (by rfl) rfl ?_ ?_
        rotate_left
        · go_simp
          rfl
        refine hK.out _ _ ⟨((cell_far (p := ⟨gb194, _, none⟩) NB199_194.out _).trans (((cell_far (p := ⟨gb194, _, none⟩) NB199_194.out _).trans (hHeld.1)))), ((cell_far (p := ⟨gb194, _, none⟩) NB199_194.out _).trans (((cell_far (p := ⟨gb194, _, none⟩) NB199_194.out _).trans (hHeld.2.1)))), ((cell_far (p := ⟨gb194, _, none⟩) NB203_194.out _).trans (((cell_far (p := ⟨gb194, _, none⟩) NB203_194.out _).trans (hHeld.2.2.1)))), ((cell_far (p := ⟨gb194, _, none⟩) NB203_194.out _).trans (((cell_far (p := ⟨gb194, _, none⟩) NB203_194.out _).trans (hHeld.2.2.2))))⟩ (fun hHeld => ?_)
        clear hK K
        refine one_ (i := 3) (N := none) #[true, true, true, true] rfl rfl (by kernel_rfl) (by decide) (fun K hK => ?_)
        have hs51 : w48.cell? ⟨gb195, 0, none⟩ = some (.int .i64 0) := (blk_cell BK195.out 0).trans rfl
        have hfs51 := blk_frozen BK195.out 0
        have hns51_0 := NB194_195.out
        have hns51_2 := NB199_195.out
        have hns51_3 := NB203_195.out
        have hms51_0 := NB195_194.out
        have hms51_2 := NB195_199.out
        have hms51_3 := NB195_203.out
        have hs52 : w48.cell? ⟨gb195, 1, none⟩ = some (.int .i64 0) := (blk_cell BK195.out 1).trans rfl
        have hfs52 := blk_frozen BK195.out 1
        have hns52_0 := NB194_195.out
        have hns52_2 := NB199_195.out
        have hns52_3 := NB203_195.out
        have hms52_0 := NB195_194.out
        have hms52_2 := NB195_199.out
        have hms52_3 := NB195_203.out
        refine skip_ (w1 := ?_) (by rfl) rfl ?_ ?_
        rotate_left
        · go_simp
          rfl
        refine hK.out _ _ ⟨((cell_far (p := ⟨gb195, _, none⟩) NB199_195.out _).trans (((cell_far (p := ⟨gb195, _, none⟩) NB199_195.out _).trans (hHeld.1)))), ((cell_far (p := ⟨gb195, _, none⟩) NB199_195.out _).trans (((cell_far (p := ⟨gb195, _, none⟩) NB199_195.out _).trans (hHeld.2.1)))), ((cell_far (p := ⟨gb195, _, none⟩) NB203_195.out _).trans (((cell_far (p := ⟨gb195, _, none⟩) NB203_195.out _).trans (hHeld.2.2.1)))), ((cell_far (p := ⟨gb195, _, none⟩) NB203_195.out _).trans (((cell_far (p := ⟨gb195, _, none⟩) NB203_195.out _).trans (hHeld.2.2.2))))⟩ (fun hHeld => ?_)
        clear hK K
        refine done_ (by kernel_rfl) ?_
        try go_wp2
        refine bodyPost_ret (results_cc rfl _ _ gb194 gb195 24 24 #[.int .i64 t196, .int .i64 t197] #[.int .i64 t213, .int .i64 t214] (0, 0) (0, 0) _ _ rfl (by refine sqt ?_; refine blk_far ?_ NB194_195.out _; refine sqt ?_; refine blk_far ?_ NB194_195.out _; refine sqt ?_; refine blk_put (cs := #[.int .i64 t196, .int .i64 0]) ?_ 1 _ rfl; refine sqt ?_; refine blk_put (cs := #[.int .i64 0, .int .i64 0]) ?_ 0 _ rfl; refine sqt ?_; exact BK194.out) Try.underlying24 rfl (by kernel_rfl) rfl (by refine sqt ?_; refine blk_put (cs := #[.int .i64 t213, .int .i64 0]) ?_ 1 _ rfl; refine sqt ?_; refine blk_put (cs := #[.int .i64 0, .int .i64 0]) ?_ 0 _ rfl; refine sqt ?_; refine blk_far ?_ NB195_194.out _; refine sqt ?_; refine blk_far ?_ NB195_194.out _; refine sqt ?_; exact BK195.out) Try.underlying24 rfl (by kernel_rfl)) rfl ?_
        exact ⟨by first | rfl | (simp [errW_none, errW_some] <;> rfl) | (simp [*, errW_none, errW_some] <;> rfl), by repeat (first | (with_reducible first | exact HI0.out | apply IsS161.alloc | apply IsS161.drewN | apply IsS161.drew | apply IsS161.set_1 | refine IsS161.far ?_ NB0_194.out _ | refine IsS161.far ?_ NB0_195.out _ | refine IsS161.far ?_ NB0_199.out _ | refine IsS161.far ?_ NB0_203.out _) | exact HI0.out), by repeat (first | (with_reducible first | exact HB.out | apply below_alloc | apply pw_below_drewN | apply below_drew1 | refine below_set ?_ (IsS161.ge HI0.out) | refine below_set ?_ GE194.out | refine below_set ?_ GE195.out | refine below_set ?_ GE199.out | refine below_set ?_ GE203.out) | exact HB.out), by repeat (first | (with_reducible first | exact HK.out | apply KeepBut.set_ | apply keep_drewN | apply keep_drew | apply keep_alloc | refine keep_far ?_ GW194.out _ | refine keep_far ?_ GW195.out _ | refine keep_far ?_ GW199.out _ | refine keep_far ?_ GW203.out _) | exact HK.out)⟩
      · replace c37 := Bool.eq_false_iff.mpr c37
        subst c37
        have H1 : (some (t196, t197, t200, t201, x1001_3)) = some (r1, r2, r3, r4, r5) := by rw [if_neg (show ¬ (false = true) by decide)] at H; exact H
        clear H
        have H := H1
        clear H1
        simp only [Option.some.injEq, Prod.mk.injEq] at H
        obtain ⟨rfl, rfl, rfl, rfl, rfl⟩ := H
        try go_wp2
        replace BK194 := Aside0.mk (blk_drew BK194.out)
        replace BK195 := Aside0.mk (blk_drew BK195.out)
        replace BK199 := Aside0.mk (blk_drew BK199.out)
        replace BK203 := Aside0.mk (blk_drew BK203.out)
        replace HI0 := Aside0.mk (IsS161.drew HI0.out)
        replace HK := Aside0.mk (keep_drew HK.out)
        replace HB := Aside0.mk (below_drew1 HB.out)
        refine start_ (n := 4) (S := fun w' => w'.cell? ⟨gb199, 0, none⟩ = some (.int .i64 t196) ∧ w'.cell? ⟨gb199, 1, none⟩ = some (.int .i64 t197) ∧ w'.cell? ⟨gb203, 0, none⟩ = some (.int .i64 t200) ∧ w'.cell? ⟨gb203, 1, none⟩ = some (.int .i64 t201)) (ds := []) #[false, false, false, false] (by kernel_rfl) rfl rfl ⟨(blk_cell BK199.out 0).trans rfl, (blk_cell BK199.out 1).trans rfl, (blk_cell BK203.out 0).trans rfl, (blk_cell BK203.out 1).trans rfl⟩ (fun hHeld => ?_)
        generalize wc.drew = w53 at BK194 BK195 BK199 BK203 HI0 HK HB hHeld ⊢
        refine take_ (i := 0) (N := some 35) (v := ?_) (a' := ?_) #[true, false, false, false] rfl rfl (by kernel_rfl) (fun _ _ _ h => h) (Or.inl ⟨by rfl, ?_⟩) hHeld ?_ ?_
        rotate_left
        · rintro w' ⟨s0, s1, s2, s3⟩
          go_simp
          with_reducible rfl
        rotate_left
        · simp only [Act.put, List.setIfInBounds_toArray, List.set_cons_zero, List.set_cons_succ, i64_w, i32_w]
          rfl
        refine take_ (i := 1) (N := some 36) (v := ?_) (a' := ?_) #[true, true, false, false] rfl rfl (by kernel_rfl) (fun _ _ _ h => h) (Or.inl ⟨by rfl, ?_⟩) hHeld ?_ ?_
        rotate_left
        · rintro w' ⟨s0, s1, s2, s3⟩
          go_simp
          with_reducible rfl
        rotate_left
        · simp only [Act.put, List.setIfInBounds_toArray, List.set_cons_zero, List.set_cons_succ, i64_w, i32_w]
          rfl
        refine one_ (i := 2) (N := none) #[true, true, true, false] rfl rfl (by kernel_rfl) (by decide) (fun K hK => ?_)
        have hs54 : w53.cell? ⟨gb194, 0, none⟩ = some (.int .i64 0) := (blk_cell BK194.out 0).trans rfl
        have hfs54 := blk_frozen BK194.out 0
        have hns54_1 := NB195_194.out
        have hns54_2 := NB199_194.out
        have hns54_3 := NB203_194.out
        have hms54_1 := NB194_195.out
        have hms54_2 := NB194_199.out
        have hms54_3 := NB194_203.out
        have hs55 : w53.cell? ⟨gb194, 1, none⟩ = some (.int .i64 0) := (blk_cell BK194.out 1).trans rfl
        have hfs55 := blk_frozen BK194.out 1
        have hns55_1 := NB195_194.out
        have hns55_2 := NB199_194.out
        have hns55_3 := NB203_194.out
        have hms55_1 := NB194_195.out
        have hms55_2 := NB194_199.out
        have hms55_3 := NB194_203.out
        refine skip_ (w1 := ?_) (by rfl) rfl ?_ ?_
        rotate_left
        · go_simp
          rfl
        refine hK.out _ _ ⟨((cell_far (p := ⟨gb194, _, none⟩) NB199_194.out _).trans (((cell_far (p := ⟨gb194, _, none⟩) NB199_194.out _).trans (hHeld.1)))), ((cell_far (p := ⟨gb194, _, none⟩) NB199_194.out _).trans (((cell_far (p := ⟨gb194, _, none⟩) NB199_194.out _).trans (hHeld.2.1)))), ((cell_far (p := ⟨gb194, _, none⟩) NB203_194.out _).trans (((cell_far (p := ⟨gb194, _, none⟩) NB203_194.out _).trans (hHeld.2.2.1)))), ((cell_far (p := ⟨gb194, _, none⟩) NB203_194.out _).trans (((cell_far (p := ⟨gb194, _, none⟩) NB203_194.out _).trans (hHeld.2.2.2))))⟩ (fun hHeld => ?_)
        clear hK K
        refine one_ (i := 3) (N := none) #[true, true, true, true] rfl rfl (by kernel_rfl) (by decide) (fun K hK => ?_)
        have hs56 : w53.cell? ⟨gb195, 0, none⟩ = some (.int .i64 0) := (blk_cell BK195.out 0).trans rfl
        have hfs56 := blk_frozen BK195.out 0
        have hns56_0 := NB194_195.out
        have hns56_2 := NB199_195.out
        have hns56_3 := NB203_195.out
        have hms56_0 := NB195_194.out
        have hms56_2 := NB195_199.out
        have hms56_3 := NB195_203.out
        have hs57 : w53.cell? ⟨gb195, 1, none⟩ = some (.int .i64 0) := (blk_cell BK195.out 1).trans rfl
        have hfs57 := blk_frozen BK195.out 1
        have hns57_0 := NB194_195.out
        have hns57_2 := NB199_195.out
        have hns57_3 := NB203_195.out
        have hms57_0 := NB195_194.out
        have hms57_2 := NB195_199.out
        have hms57_3 := NB195_203.out
        refine skip_ (w1 := ?_) (by rfl) rfl ?_ ?_
        rotate_left
        · go_simp
          rfl
        refine hK.out _ _ ⟨((cell_far (p := ⟨gb195, _, none⟩) NB199_195.out _).trans (((cell_far (p := ⟨gb195, _, none⟩) NB199_195.out _).trans (hHeld.1)))), ((cell_far (p := ⟨gb195, _, none⟩) NB199_195.out _).trans (((cell_far (p := ⟨gb195, _, none⟩) NB199_195.out _).trans (hHeld.2.1)))), ((cell_far (p := ⟨gb195, _, none⟩) NB203_195.out _).trans (((cell_far (p := ⟨gb195, _, none⟩) NB203_195.out _).trans (hHeld.2.2.1)))), ((cell_far (p := ⟨gb195, _, none⟩) NB203_195.out _).trans (((cell_far (p := ⟨gb195, _, none⟩) NB203_195.out _).trans (hHeld.2.2.2))))⟩ (fun hHeld => ?_)
        clear hK K
        refine done_ (by kernel_rfl) ?_
        try go_wp2
        refine bodyPost_ret (results_cc rfl _ _ gb194 gb195 24 24 #[.int .i64 t196, .int .i64 t197] #[.int .i64 t200, .int .i64 t201] (0, 0) (0, 0) _ _ rfl (by refine sqt ?_; refine blk_far ?_ NB194_195.out _; refine sqt ?_; refine blk_far ?_ NB194_195.out _; refine sqt ?_; refine blk_put (cs := #[.int .i64 t196, .int .i64 0]) ?_ 1 _ rfl; refine sqt ?_; refine blk_put (cs := #[.int .i64 0, .int .i64 0]) ?_ 0 _ rfl; refine sqt ?_; exact BK194.out) Try.underlying24 rfl (by kernel_rfl) rfl (by refine sqt ?_; refine blk_put (cs := #[.int .i64 t200, .int .i64 0]) ?_ 1 _ rfl; refine sqt ?_; refine blk_put (cs := #[.int .i64 0, .int .i64 0]) ?_ 0 _ rfl; refine sqt ?_; refine blk_far ?_ NB195_194.out _; refine sqt ?_; refine blk_far ?_ NB195_194.out _; refine sqt ?_; exact BK195.out) Try.underlying24 rfl (by kernel_rfl)) rfl ?_
        exact ⟨by first | rfl | (simp [errW_none, errW_some] <;> rfl) | (simp [*, errW_none, errW_some] <;> rfl), by repeat (first | (with_reducible first | exact HI0.out | apply IsS161.alloc | apply IsS161.drewN | apply IsS161.drew | apply IsS161.set_1 | refine IsS161.far ?_ NB0_194.out _ | refine IsS161.far ?_ NB0_195.out _ | refine IsS161.far ?_ NB0_199.out _ | refine IsS161.far ?_ NB0_203.out _) | exact HI0.out), by repeat (first | (with_reducible first | exact HB.out | apply below_alloc | apply pw_below_drewN | apply below_drew1 | refine below_set ?_ (IsS161.ge HI0.out) | refine below_set ?_ GE194.out | refine below_set ?_ GE195.out | refine below_set ?_ GE199.out | refine below_set ?_ GE203.out) | exact HB.out), by repeat (first | (with_reducible first | exact HK.out | apply KeepBut.set_ | apply keep_drewN | apply keep_drew | apply keep_alloc | refine keep_far ?_ GW194.out _ | refine keep_far ?_ GW195.out _ | refine keep_far ?_ GW199.out _ | refine keep_far ?_ GW203.out _) | exact HK.out)⟩

end Go.Proofs.Ytkekcenlleebeaa.PFnRangeCmp
