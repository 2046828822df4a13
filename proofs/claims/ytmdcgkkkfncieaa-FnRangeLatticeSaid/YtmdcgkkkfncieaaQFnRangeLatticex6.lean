/- Functions of the program as plain Lean functions, and that calls of them come to what these tell. Conditions: those in each law. -/
import Derived.Test.YtmdcgkkkfncieaaSq
import Derived.Test.YtmdcgkkkfncieaaDFnRangeLattice
import Derived.Test.YtmdcgkkkfncieaaQFnRangeLatticex0
import Derived.Test.YtmdcgkkkfncieaaQFnRangeLatticex1
import Derived.Test.YtmdcgkkkfncieaaQFnRangeLatticex2
import Derived.Test.YtmdcgkkkfncieaaQFnRangeLatticex3
import Derived.Test.YtmdcgkkkfncieaaQFnRangeLatticex4
import Derived.Test.YtmdcgkkkfncieaaQFnRangeLatticex5
namespace Go.Proofs.Ytmdcgkkkfncieaa.PFnRangeLattice
open Go.RowKit Go.Proofs.Ytmdcgkkkfncieaa.Sq Go.Proofs.YtmdcgkkkfncieaaW.PrintWords Go.Proofs.YtmdcgkkkfncieaaW.PrintLast Go.Proofs.YtmdcgkkkfncieaaW.PrintMore
attribute [local go_sem] max2_int min2_int max_two min_two max_three min_three max_four min_four   -- for this text's walks alone
set_option linter.unusedVariables false
set_option linter.unusedSimpArgs false

attribute [local go_sem high] eqA27
/-! ### spec_l8Two: function 96 -/
theorem spec_l8Two.mono_l : ∀ k, (∀ y0 y1 y2 y3 y4 y5 y6, LeO (spec_l8Two.j0 k y0 y1 y2 y3 y4 y5 y6) (spec_l8Two.j0 (k + 1) y0 y1 y2 y3 y4 y5 y6))
  | 0 => fun _ _ _ _ _ _ _ r h => by simp [spec_l8Two.j0] at h
  | k + 1 => by
    have ih0 := spec_l8Two.mono_l k
    · intro y0 y1 y2 y3 y4 y5 y6
      unfold spec_l8Two.j0
      repeat' first
      | (with_reducible exact ih0 _ _ _ _ _ _ _)
      | (with_reducible exact spec_l1Rd_pick.mono _ _ _ _)
      | (with_reducible exact spec_l8Wild.mono _ _ _)
      | (with_reducible exact LeO.refl _)
      | (with_reducible exact LeO.none _)
      | (with_reducible refine LeO.ite ?_ ?_)
      | (with_reducible refine LeO.bind ?_ (fun _ => ?_))
      | exact ih0 _ _ _ _ _ _ _
      | exact spec_l1Rd_pick.mono _ _ _ _
      | exact spec_l8Wild.mono _ _ _
      | exact LeO.none _
      | refine LeO.ite ?_ ?_
      | refine LeO.bind ?_ (fun _ => ?_)
theorem spec_l8Two.mono : ∀ a0 a1 k, LeO (spec_l8Two.f k a0 a1) (spec_l8Two.f (k + 1) a0 a1) := by
  intro a0 a1 k
  have ih0 := spec_l8Two.mono_l k
  unfold spec_l8Two.f
  repeat' first
      | (with_reducible exact ih0 _ _ _ _ _ _ _)
      | (with_reducible exact spec_l1Rd_pick.mono _ _ _ _)
      | (with_reducible exact spec_l8Wild.mono _ _ _)
      | (with_reducible exact LeO.refl _)
      | (with_reducible exact LeO.none _)
      | (with_reducible refine LeO.ite ?_ ?_)
      | (with_reducible refine LeO.bind ?_ (fun _ => ?_))
      | exact ih0 _ _ _ _ _ _ _
      | exact spec_l1Rd_pick.mono _ _ _ _
      | exact spec_l8Wild.mono _ _ _
      | exact LeO.none _
      | refine LeO.ite ?_ ?_
      | refine LeO.bind ?_ (fun _ => ?_)
def spec_l8Two.T3 : Bool × List (List Nat × List Nat) := (true, [([], []), ([0], [0]), ([1], [1]), ([2, 1], [2]), ([3], [3]), ([4, 3, 3], [3, 4]), ([3, 5], [3, 5]), ([6, 5], [6]), ([7], [7]), ([7, 7], [7]), ([8, 9, 7], [7, 8, 9]), ([7, 10], [7, 10])])
def spec_l8Two.B3 : List Nat := [0, 1, 3, 7, 15, 31, 63, 127, 255, 255, 1023, 2047]
theorem spec_l8Two.tab3 : rtab .any (opsOf Try.f96 3) = spec_l8Two.T3 := by kernel_rfl
theorem spec_l8Two.bits3 : waitsOk spec_l8Two.T3.2 spec_l8Two.B3 = true := by kernel_rfl
def spec_l8Two.T4 : Bool × List (List Nat × List Nat) := (true, [([], []), ([0], [0]), ([], []), ([2], [2]), ([1, 3], [1, 3]), ([4], [4]), ([], []), ([6], [6]), ([], []), ([8, 3], [8]), ([7, 9], [7, 9]), ([10], [10]), ([5, 11, 9], [5, 11]), ([12, 12, 0, 1, 2, 3, 4, 5, 6, 7, 8, 9, 10, 11, 12], [12])])
def spec_l8Two.B4 : List Nat := [0, 1, 0, 4, 15, 31, 0, 64, 0, 268, 972, 1996, 4095, 8191]
theorem spec_l8Two.tab4 : rtab .any (opsOf Try.f96 4) = spec_l8Two.T4 := by kernel_rfl
theorem spec_l8Two.bits4 : waitsOk spec_l8Two.T4.2 spec_l8Two.B4 = true := by kernel_rfl
set_option maxHeartbeats 8000000 in
set_option maxRecDepth 100000 in
theorem spec_l8Two.calls (k : Nat) (g : Nat) (s0_0 : List Int) (s0_1 : Int) (r1 : Int) (r2 : Int) (r3 : Int) (r4 : Int) (r5 : Int) (w0 w : World) (hI : IsS98 w0 w g s0_0 s0_1) (hB : Below w0.heap.size w0 w) (h : spec_l8Two.f k s0_0 s0_1 = some (r1, r2, r3, r4, r5)) :
    Calls Try.prog 96 #[.pointer (some ⟨g, 0, none⟩)] w fun e w' => e = .returned (.tuple #[.agg #[.int .i64 r1, .int .i64 r2], .agg #[.int .i64 r3, .int .i64 r4]]) ∧ IsS98 w0 w' g s0_0 r5 ∧ Below w0.heap.size w0 w' ∧ KeepBut w w' g none := by
  have hu27 := Try.underlying27
  have HI0 := Aside0.mk hI
  have HK := Aside0.mk (KeepBut.refl w g none)
  have HL := Aside0.mk hB.size
  clear hI
  have HW0 := Aside0.mk hB.size
  have HB := Aside0.mk hB
  clear hB
  have H : ((spec_l8Wild.f k s0_0 s0_1).bind fun bt182 => ((spec_l8Wild.f k s0_0 bt182.2.2).bind fun bt186 => ((spec_l1Rd_pick.f k s0_0 bt186.2.2 3).bind fun bt190 => (if bt190.1 = 0 then ((spec_RangeOk.f bt182.1 bt182.2.1).bind fun t192 => (if t192 = true then ((spec_l8None.f).bind fun bt193 => (spec_l8Two.j0 k (!(bt182.1 == bt193.1) || (!(bt182.2.1 == bt193.2))) s0_0 bt190.2 bt182.1 bt182.2.1 bt186.1 bt186.2.1)) else (spec_l8Two.j0 k false s0_0 bt190.2 bt182.1 bt182.2.1 bt186.1 bt186.2.1))) else (spec_l8Two.j0 k false s0_0 bt190.2 bt182.1 bt182.2.1 bt186.1 bt186.2.1))))) = some (r1, r2, r3, r4, r5) := h
  clear h
  replace H := Option.bind_eq_some_iff.mp H
  obtain ⟨⟨t182, t183, t184⟩, A20, H⟩ := H
  replace H : ((spec_l8Wild.f k s0_0 t184).bind fun bt186 => ((spec_l1Rd_pick.f k s0_0 bt186.2.2 3).bind fun bt190 => (if bt190.1 = 0 then ((spec_RangeOk.f t182 t183).bind fun t192 => (if t192 = true then ((spec_l8None.f).bind fun bt193 => (spec_l8Two.j0 k (!(t182 == bt193.1) || (!(t183 == bt193.2))) s0_0 bt190.2 t182 t183 bt186.1 bt186.2.1)) else (spec_l8Two.j0 k false s0_0 bt190.2 t182 t183 bt186.1 bt186.2.1))) else (spec_l8Two.j0 k false s0_0 bt190.2 t182 t183 bt186.1 bt186.2.1)))) = some (r1, r2, r3, r4, r5) := H
  have A2 := Aside0.mk A20
  clear A20
  replace H := Option.bind_eq_some_iff.mp H
  obtain ⟨⟨t186, t187, t188⟩, A30, H⟩ := H
  replace H : ((spec_l1Rd_pick.f k s0_0 t188 3).bind fun bt190 => (if bt190.1 = 0 then ((spec_RangeOk.f t182 t183).bind fun t192 => (if t192 = true then ((spec_l8None.f).bind fun bt193 => (spec_l8Two.j0 k (!(t182 == bt193.1) || (!(t183 == bt193.2))) s0_0 bt190.2 t182 t183 t186 t187)) else (spec_l8Two.j0 k false s0_0 bt190.2 t182 t183 t186 t187))) else (spec_l8Two.j0 k false s0_0 bt190.2 t182 t183 t186 t187))) = some (r1, r2, r3, r4, r5) := H
  have A3 := Aside0.mk A30
  clear A30
  have HC4 := Aside0.mk H
  clear H
  go_enter Try.func96, Try.ntmps96
  go_upto_region 3 with (first | ((with_reducible refine gate_dst (N := 2) rfl ?_); refine sqx 2 #[.int .i64 0, .int .i64 0] 27 ?_; intro gb180 hg w5 hbox hb; have n0_ := Aside0.mk (IsS98.below (by repeat (first | (with_reducible first | exact HI0.out | apply IsS98.alloc | apply IsS98.drewN | apply IsS98.drew | apply IsS98.set_1) | exact HI0.out)) hb); have n1_ := Aside0.mk (KeepBut.trans (by repeat (first | (with_reducible first | exact HK.out | apply KeepBut.set_ | apply keep_drewN | apply keep_drew | apply keep_alloc) | exact HK.out)) (KeepBut.of_below hb g none) (.inl rfl)); have n2_ := Aside0.mk (below_step (by repeat (first | (with_reducible first | exact HB.out | apply below_alloc | apply pw_below_drewN | apply below_drew1 | refine below_set ?_ (IsS98.ge HI0.out)) | exact HB.out)) hb); have n3_ := Aside0.mk (hbox); have n4_ := Aside0.mk ((by rw [hg]; exact (keep_size (w := w) (g := g) (row := none) (by repeat (first | (with_reducible first | exact HK.out | apply KeepBut.set_ | apply keep_drewN | apply keep_drew | apply keep_alloc) | exact HK.out))) : w.heap.size ≤ gb180)); have n5_ := Aside0.mk ((Nat.le_trans HW0.out (by rw [hg]; exact (keep_size (w := w) (g := g) (row := none) (by repeat (first | (with_reducible first | exact HK.out | apply KeepBut.set_ | apply keep_drewN | apply keep_drew | apply keep_alloc) | exact HK.out))) : w.heap.size ≤ gb180) : w0.heap.size ≤ gb180)); have n6_ := Aside0.mk ((by rw [hg]; exact Nat.ne_of_lt (IsS98.lt (show IsS98 w0 _ g s0_0 s0_1 from by repeat (first | (with_reducible first | exact HI0.out | apply IsS98.alloc | apply IsS98.drewN | apply IsS98.drew | apply IsS98.set_1) | exact HI0.out))) : g ≠ gb180)); have n7_ := Aside0.mk ((by rw [hg]; exact Nat.ne_of_gt (IsS98.lt (show IsS98 w0 _ g s0_0 s0_1 from by repeat (first | (with_reducible first | exact HI0.out | apply IsS98.alloc | apply IsS98.drewN | apply IsS98.drew | apply IsS98.set_1) | exact HI0.out))) : gb180 ≠ g)); clear HI0; clear HK; clear HB; have HI0 := n0_; have HK := n1_; have HB := n2_; have BK180 := n3_; have GW180 := n4_; have GE180 := n5_; have NB0_180 := n6_; have NB180_0 := n7_; clear n0_ n1_ n2_ n3_ n4_ n5_ n6_ n7_; clear hb hbox hg) | ((with_reducible refine gate_dst (N := 3) rfl ?_); refine sqx 3 #[.int .i64 0, .int .i64 0] 27 ?_; intro gb181 hg w6 hbox hb; have n0_ := Aside0.mk (IsS98.below (by repeat (first | (with_reducible first | exact HI0.out | apply IsS98.alloc | apply IsS98.drewN | apply IsS98.drew | apply IsS98.set_1 | refine IsS98.far ?_ NB0_180.out _) | exact HI0.out)) hb); have n1_ := sqb BK180 hb; have n2_ := Aside0.mk (KeepBut.trans (by repeat (first | (with_reducible first | exact HK.out | apply KeepBut.set_ | apply keep_drewN | apply keep_drew | apply keep_alloc | refine keep_far ?_ GW180.out _) | exact HK.out)) (KeepBut.of_below hb g none) (.inl rfl)); have n3_ := Aside0.mk (below_step (by repeat (first | (with_reducible first | exact HB.out | apply below_alloc | apply pw_below_drewN | apply below_drew1 | refine below_set ?_ (IsS98.ge HI0.out) | refine below_set ?_ GE180.out) | exact HB.out)) hb); have n4_ := Aside0.mk (hbox); have n5_ := Aside0.mk ((by rw [hg]; exact (keep_size (w := w) (g := g) (row := none) (by repeat (first | (with_reducible first | exact HK.out | apply KeepBut.set_ | apply keep_drewN | apply keep_drew | apply keep_alloc | refine keep_far ?_ GW180.out _) | exact HK.out))) : w.heap.size ≤ gb181)); have n6_ := Aside0.mk ((Nat.le_trans HW0.out (by rw [hg]; exact (keep_size (w := w) (g := g) (row := none) (by repeat (first | (with_reducible first | exact HK.out | apply KeepBut.set_ | apply keep_drewN | apply keep_drew | apply keep_alloc | refine keep_far ?_ GW180.out _) | exact HK.out))) : w.heap.size ≤ gb181) : w0.heap.size ≤ gb181)); have n7_ := sqn BK180 hg; have n8_ := sqm BK180 hg; have n9_ := Aside0.mk ((by rw [hg]; exact Nat.ne_of_lt (IsS98.lt (show IsS98 w0 _ g s0_0 s0_1 from by repeat (first | (with_reducible first | exact HI0.out | apply IsS98.alloc | apply IsS98.drewN | apply IsS98.drew | apply IsS98.set_1 | refine IsS98.far ?_ NB0_180.out _) | exact HI0.out))) : g ≠ gb181)); have n10_ := Aside0.mk ((by rw [hg]; exact Nat.ne_of_gt (IsS98.lt (show IsS98 w0 _ g s0_0 s0_1 from by repeat (first | (with_reducible first | exact HI0.out | apply IsS98.alloc | apply IsS98.drewN | apply IsS98.drew | apply IsS98.set_1 | refine IsS98.far ?_ NB0_180.out _) | exact HI0.out))) : gb181 ≠ g)); clear HI0; clear BK180; clear HK; clear HB; have HI0 := n0_; have BK180 := n1_; have HK := n2_; have HB := n3_; have BK181 := n4_; have GW181 := n5_; have GE181 := n6_; have NB180_181 := n7_; have NB181_180 := n8_; have NB0_181 := n9_; have NB181_0 := n10_; clear n0_ n1_ n2_ n3_ n4_ n5_ n6_ n7_ n8_ n9_ n10_; clear hb hbox hg) | ((with_reducible refine gate_callee (f := 115) rfl ?_); refine sqL (some 7) Try.func115 #[.pointer (some ⟨g, 0, none⟩)] ?_; (with_reducible refine (spec_l8Wild.calls k g s0_0 s0_1 t182 t183 t184 w0 _ ?side1 ?side2 A2.out).mono ?_); (case side1 => repeat (first | (with_reducible first | exact HI0.out | apply IsS98.alloc | apply IsS98.drewN | apply IsS98.drew | apply IsS98.set_1 | refine IsS98.far ?_ NB0_180.out _ | refine IsS98.far ?_ NB0_181.out _) | exact HI0.out)); (case side2 => repeat (first | (with_reducible first | exact HB.out | apply below_alloc | apply pw_below_drewN | apply below_drew1 | refine below_set ?_ (IsS98.ge HI0.out) | refine below_set ?_ GE180.out | refine below_set ?_ GE181.out) | exact HB.out)); rintro e w7 ⟨rfl, hi, hb, hk⟩; refine ⟨_, rfl, ?_⟩; have n0_ := Aside0.mk (KeepBut.blk hk (g' := gb180) (o := .cells #[.int .i64 0, .int .i64 0] 27 (0, 0)) (by refine sqt ?_; exact BK180.out) NB180_0.out (by simp)); have n1_ := Aside0.mk (KeepBut.blk hk (g' := gb181) (o := .cells #[.int .i64 0, .int .i64 0] 27 (0, 0)) (by refine sqt ?_; exact BK181.out) NB181_0.out (by simp)); have n2_ := Aside0.mk (KeepBut.trans (by repeat (first | (with_reducible first | exact HK.out | apply KeepBut.set_ | apply keep_drewN | apply keep_drew | apply keep_alloc | refine keep_far ?_ GW180.out _ | refine keep_far ?_ GW181.out _) | exact HK.out)) hk (.inl rfl)); have n3_ := Aside0.mk (hb); have n4_ := Aside0.mk (hi); clear BK180; clear BK181; clear HK; clear HB; clear HI0; have BK180 := n0_; have BK181 := n1_; have HK := n2_; have HB := n3_; have HI0 := n4_; clear n0_ n1_ n2_ n3_ n4_; (try clear hb); (try clear hb2); (try clear hk); (try clear hi)) | ((with_reducible refine gate_dst (N := 4) rfl ?_); refine sqx 4 #[.int .i64 0, .int .i64 0] 27 ?_; intro gb185 hg w8 hbox hb; have n0_ := Aside0.mk (IsS98.below (by repeat (first | (with_reducible first | exact HI0.out | apply IsS98.alloc | apply IsS98.drewN | apply IsS98.drew | apply IsS98.set_1 | refine IsS98.far ?_ NB0_180.out _ | refine IsS98.far ?_ NB0_181.out _) | exact HI0.out)) hb); have n1_ := sqb BK180 hb; have n2_ := sqb BK181 hb; have n3_ := Aside0.mk (KeepBut.trans (by repeat (first | (with_reducible first | exact HK.out | apply KeepBut.set_ | apply keep_drewN | apply keep_drew | apply keep_alloc | refine keep_far ?_ GW180.out _ | refine keep_far ?_ GW181.out _) | exact HK.out)) (KeepBut.of_below hb g none) (.inl rfl)); have n4_ := Aside0.mk (below_step (by repeat (first | (with_reducible first | exact HB.out | apply below_alloc | apply pw_below_drewN | apply below_drew1 | refine below_set ?_ (IsS98.ge HI0.out) | refine below_set ?_ GE180.out | refine below_set ?_ GE181.out) | exact HB.out)) hb); have n5_ := Aside0.mk (hbox); have n6_ := Aside0.mk ((by rw [hg]; exact (keep_size (w := w) (g := g) (row := none) (by repeat (first | (with_reducible first | exact HK.out | apply KeepBut.set_ | apply keep_drewN | apply keep_drew | apply keep_alloc | refine keep_far ?_ GW180.out _ | refine keep_far ?_ GW181.out _) | exact HK.out))) : w.heap.size ≤ gb185)); have n7_ := Aside0.mk ((Nat.le_trans HW0.out (by rw [hg]; exact (keep_size (w := w) (g := g) (row := none) (by repeat (first | (with_reducible first | exact HK.out | apply KeepBut.set_ | apply keep_drewN | apply keep_drew | apply keep_alloc | refine keep_far ?_ GW180.out _ | refine keep_far ?_ GW181.out _) | exact HK.out))) : w.heap.size ≤ gb185) : w0.heap.size ≤ gb185)); have n8_ := sqn BK180 hg; have n9_ := sqm BK180 hg; have n10_ := sqn BK181 hg; have n11_ := sqm BK181 hg; have n12_ := Aside0.mk ((by rw [hg]; exact Nat.ne_of_lt (IsS98.lt (show IsS98 w0 _ g s0_0 t184 from by repeat (first | (with_reducible first | exact HI0.out | apply IsS98.alloc | apply IsS98.drewN | apply IsS98.drew | apply IsS98.set_1 | refine IsS98.far ?_ NB0_180.out _ | refine IsS98.far ?_ NB0_181.out _) | exact HI0.out))) : g ≠ gb185)); have n13_ := Aside0.mk ((by rw [hg]; exact Nat.ne_of_gt (IsS98.lt (show IsS98 w0 _ g s0_0 t184 from by repeat (first | (with_reducible first | exact HI0.out | apply IsS98.alloc | apply IsS98.drewN | apply IsS98.drew | apply IsS98.set_1 | refine IsS98.far ?_ NB0_180.out _ | refine IsS98.far ?_ NB0_181.out _) | exact HI0.out))) : gb185 ≠ g)); clear HI0; clear BK180; clear BK181; clear HK; clear HB; have HI0 := n0_; have BK180 := n1_; have BK181 := n2_; have HK := n3_; have HB := n4_; have BK185 := n5_; have GW185 := n6_; have GE185 := n7_; have NB180_185 := n8_; have NB185_180 := n9_; have NB181_185 := n10_; have NB185_181 := n11_; have NB0_185 := n12_; have NB185_0 := n13_; clear n0_ n1_ n2_ n3_ n4_ n5_ n6_ n7_ n8_ n9_ n10_ n11_ n12_ n13_; clear hb hbox hg; have hnb9 := NB185_180.out; have hnc9 := NB180_185.out; have hnb10 := NB185_181.out; have hnc10 := NB181_185.out; have hnb11 := NB185_0.out; have hnc11 := NB0_185.out; obtain ⟨hcz12_0, hcz12_1, hfz12_0, hfz12_1⟩ := sqc2 BK185) | ((with_reducible refine gate_callee (f := 115) rfl ?_); refine sqL (some 9) Try.func115 #[.pointer (some ⟨g, 0, none⟩)] ?_; (with_reducible refine (spec_l8Wild.calls k g s0_0 t184 t186 t187 t188 w0 _ ?side1 ?side2 A3.out).mono ?_); (case side1 => repeat (first | (with_reducible first | exact HI0.out | apply IsS98.alloc | apply IsS98.drewN | apply IsS98.drew | apply IsS98.set_1 | refine IsS98.far ?_ NB0_180.out _ | refine IsS98.far ?_ NB0_181.out _ | refine IsS98.far ?_ NB0_185.out _) | exact HI0.out)); (case side2 => repeat (first | (with_reducible first | exact HB.out | apply below_alloc | apply pw_below_drewN | apply below_drew1 | refine below_set ?_ (IsS98.ge HI0.out) | refine below_set ?_ GE180.out | refine below_set ?_ GE181.out | refine below_set ?_ GE185.out) | exact HB.out)); rintro e w13 ⟨rfl, hi, hb, hk⟩; refine ⟨_, rfl, ?_⟩; have n0_ := Aside0.mk (KeepBut.blk hk (g' := gb180) (o := .cells #[.int .i64 0, .int .i64 0] 27 (0, 0)) (by refine sqt ?_; refine blk_far ?_ NB180_185.out _; refine sqt ?_; refine blk_far ?_ NB180_185.out _; refine sqt ?_; exact BK180.out) NB180_0.out (by simp)); have n1_ := Aside0.mk (KeepBut.blk hk (g' := gb181) (o := .cells #[.int .i64 0, .int .i64 0] 27 (0, 0)) (by refine sqt ?_; refine blk_far ?_ NB181_185.out _; refine sqt ?_; refine blk_far ?_ NB181_185.out _; refine sqt ?_; exact BK181.out) NB181_0.out (by simp)); have n2_ := Aside0.mk (KeepBut.blk hk (g' := gb185) (o := .cells #[.int .i64 t182, .int .i64 t183] 27 (0, 0)) (by refine sqt ?_; refine blk_put (cs := #[.int .i64 t182, .int .i64 0]) ?_ 1 _ rfl; refine sqt ?_; refine blk_put (cs := #[.int .i64 0, .int .i64 0]) ?_ 0 _ rfl; refine sqt ?_; exact BK185.out) NB185_0.out (by simp)); have n3_ := Aside0.mk (KeepBut.trans (by repeat (first | (with_reducible first | exact HK.out | apply KeepBut.set_ | apply keep_drewN | apply keep_drew | apply keep_alloc | refine keep_far ?_ GW180.out _ | refine keep_far ?_ GW181.out _ | refine keep_far ?_ GW185.out _) | exact HK.out)) hk (.inl rfl)); have n4_ := Aside0.mk (hb); have n5_ := Aside0.mk (hi); clear BK180; clear BK181; clear BK185; clear HK; clear HB; clear HI0; have BK180 := n0_; have BK181 := n1_; have BK185 := n2_; have HK := n3_; have HB := n4_; have HI0 := n5_; clear n0_ n1_ n2_ n3_ n4_ n5_; (try clear hb); (try clear hb2); (try clear hk); (try clear hi)) | ((with_reducible refine gate_dst (N := 5) rfl ?_); refine sqx 5 #[.int .i64 0, .int .i64 0] 27 ?_; intro gb189 hg w14 hbox hb; have n0_ := Aside0.mk (IsS98.below (by repeat (first | (with_reducible first | exact HI0.out | apply IsS98.alloc | apply IsS98.drewN | apply IsS98.drew | apply IsS98.set_1 | refine IsS98.far ?_ NB0_180.out _ | refine IsS98.far ?_ NB0_181.out _ | refine IsS98.far ?_ NB0_185.out _) | exact HI0.out)) hb); have n1_ := sqb BK180 hb; have n2_ := sqb BK181 hb; have n3_ := sqb BK185 hb; have n4_ := Aside0.mk (KeepBut.trans (by repeat (first | (with_reducible first | exact HK.out | apply KeepBut.set_ | apply keep_drewN | apply keep_drew | apply keep_alloc | refine keep_far ?_ GW180.out _ | refine keep_far ?_ GW181.out _ | refine keep_far ?_ GW185.out _) | exact HK.out)) (KeepBut.of_below hb g none) (.inl rfl)); have n5_ := Aside0.mk (below_step (by repeat (first | (with_reducible first | exact HB.out | apply below_alloc | apply pw_below_drewN | apply below_drew1 | refine below_set ?_ (IsS98.ge HI0.out) | refine below_set ?_ GE180.out | refine below_set ?_ GE181.out | refine below_set ?_ GE185.out) | exact HB.out)) hb); have n6_ := Aside0.mk (hbox); have n7_ := Aside0.mk ((by rw [hg]; exact (keep_size (w := w) (g := g) (row := none) (by repeat (first | (with_reducible first | exact HK.out | apply KeepBut.set_ | apply keep_drewN | apply keep_drew | apply keep_alloc | refine keep_far ?_ GW180.out _ | refine keep_far ?_ GW181.out _ | refine keep_far ?_ GW185.out _) | exact HK.out))) : w.heap.size ≤ gb189)); have n8_ := Aside0.mk ((Nat.le_trans HW0.out (by rw [hg]; exact (keep_size (w := w) (g := g) (row := none) (by repeat (first | (with_reducible first | exact HK.out | apply KeepBut.set_ | apply keep_drewN | apply keep_drew | apply keep_alloc | refine keep_far ?_ GW180.out _ | refine keep_far ?_ GW181.out _ | refine keep_far ?_ GW185.out _) | exact HK.out))) : w.heap.size ≤ gb189) : w0.heap.size ≤ gb189)); have n9_ := sqn BK180 hg; have n10_ := sqm BK180 hg; have n11_ := sqn BK181 hg; have n12_ := sqm BK181 hg; have n13_ := sqn BK185 hg; have n14_ := sqm BK185 hg; have n15_ := Aside0.mk ((by rw [hg]; exact Nat.ne_of_lt (IsS98.lt (show IsS98 w0 _ g s0_0 t188 from by repeat (first | (with_reducible first | exact HI0.out | apply IsS98.alloc | apply IsS98.drewN | apply IsS98.drew | apply IsS98.set_1 | refine IsS98.far ?_ NB0_180.out _ | refine IsS98.far ?_ NB0_181.out _ | refine IsS98.far ?_ NB0_185.out _) | exact HI0.out))) : g ≠ gb189)); have n16_ := Aside0.mk ((by rw [hg]; exact Nat.ne_of_gt (IsS98.lt (show IsS98 w0 _ g s0_0 t188 from by repeat (first | (with_reducible first | exact HI0.out | apply IsS98.alloc | apply IsS98.drewN | apply IsS98.drew | apply IsS98.set_1 | refine IsS98.far ?_ NB0_180.out _ | refine IsS98.far ?_ NB0_181.out _ | refine IsS98.far ?_ NB0_185.out _) | exact HI0.out))) : gb189 ≠ g)); clear HI0; clear BK180; clear BK181; clear BK185; clear HK; clear HB; have HI0 := n0_; have BK180 := n1_; have BK181 := n2_; have BK185 := n3_; have HK := n4_; have HB := n5_; have BK189 := n6_; have GW189 := n7_; have GE189 := n8_; have NB180_189 := n9_; have NB189_180 := n10_; have NB181_189 := n11_; have NB189_181 := n12_; have NB185_189 := n13_; have NB189_185 := n14_; have NB0_189 := n15_; have NB189_0 := n16_; clear n0_ n1_ n2_ n3_ n4_ n5_ n6_ n7_ n8_ n9_ n10_ n11_ n12_ n13_ n14_ n15_ n16_; clear hb hbox hg; have hnb15 := NB189_180.out; have hnc15 := NB180_189.out; have hnb16 := NB189_181.out; have hnc16 := NB181_189.out; have hnb17 := NB189_185.out; have hnc17 := NB185_189.out; have hnb18 := NB189_0.out; have hnc18 := NB0_189.out; obtain ⟨hcz19_0, hcz19_1, hfz19_0, hfz19_1⟩ := sqc2 BK189))
  (try simp only [Act.put, List.setIfInBounds_toArray, List.set_cons_zero, List.set_cons_succ])
  go_cut [21] (fun v21 wc => ∃ (kq : Nat) (x21_3 : Bool) (x1001_3 : Int), v21 = .bool x21_3 ∧ Aside0 (spec_l8Two.j0 kq x21_3 s0_0 x1001_3 t182 t183 t186 t187 = some (r1, r2, r3, r4, r5)) ∧ Aside0 (kq ≤ k) ∧ Aside0 (wc.heap[gb180]? = some (.cells #[.int .i64 0, .int .i64 0] 27 (0, 0))) ∧ Aside0 (wc.heap[gb181]? = some (.cells #[.int .i64 0, .int .i64 0] 27 (0, 0))) ∧ Aside0 (wc.heap[gb185]? = some (.cells #[.int .i64 t182, .int .i64 t183] 27 (0, 0))) ∧ Aside0 (wc.heap[gb189]? = some (.cells #[.int .i64 t186, .int .i64 t187] 27 (0, 0))) ∧ Aside0 (IsS98 w0 wc g s0_0 x1001_3) ∧ Aside0 (KeepBut w wc g none) ∧ Aside0 (Below w0.heap.size w0 wc))
  case first =>
    have H := HC4.out
    clear HC4
    replace H := Option.bind_eq_some_iff.mp H
    obtain ⟨⟨t190, t191⟩, A200, H⟩ := H
    replace H : (if t190 = 0 then ((spec_RangeOk.f t182 t183).bind fun t192 => (if t192 = true then ((spec_l8None.f).bind fun bt193 => (spec_l8Two.j0 k (!(t182 == bt193.1) || (!(t183 == bt193.2))) s0_0 t191 t182 t183 t186 t187)) else (spec_l8Two.j0 k false s0_0 t191 t182 t183 t186 t187))) else (spec_l8Two.j0 k false s0_0 t191 t182 t183 t186 t187)) = some (r1, r2, r3, r4, r5) := H
    have A20 := Aside0.mk A200
    clear A200
    by_cases c21 : t190 = 0
    · rw [if_pos c21] at H
      have c21b0 : (t190 == 0) = true := beq_iff_eq.mpr c21
      have c21b1 : (t190 != 0) = false := bne_eq_false_iff_eq.mpr c21
      clear c21
      (first | rw [c21b0] | (simp only [i64_w, i32_w]; rw [c21b0]) | skip)
      replace H := Option.bind_eq_some_iff.mp H
      obtain ⟨t192, A220, H⟩ := H
      replace H : (if t192 = true then ((spec_l8None.f).bind fun bt193 => (spec_l8Two.j0 k (!(t182 == bt193.1) || (!(t183 == bt193.2))) s0_0 t191 t182 t183 t186 t187)) else (spec_l8Two.j0 k false s0_0 t191 t182 t183 t186 t187)) = some (r1, r2, r3, r4, r5) := H
      have A22 := Aside0.mk A220
      clear A220
      by_cases c23 : t192 = true
      · subst c23
        have H1 : ((spec_l8None.f).bind fun bt193 => (spec_l8Two.j0 k (!(t182 == bt193.1) || (!(t183 == bt193.2))) s0_0 t191 t182 t183 t186 t187)) = some (r1, r2, r3, r4, r5) := by rw [if_pos rfl] at H; exact H
        clear H
        have H := H1
        clear H1
        replace H := Option.bind_eq_some_iff.mp H
        obtain ⟨⟨t193, t194⟩, A240, H⟩ := H
        replace H : (spec_l8Two.j0 k (!(t182 == t193) || (!(t183 == t194))) s0_0 t191 t182 t183 t186 t187) = some (r1, r2, r3, r4, r5) := H
        have A24 := Aside0.mk A240
        clear A240
        have H' := Aside0.mk H
        clear H
        try go_wp2
        have n0_ : Aside0 (((w14.setCell ⟨gb189, 0, none⟩ (.int .i64 t186)).setCell ⟨gb189, 1, none⟩ (.int .i64 t187)).heap[gb180]? = some (.cells #[.int .i64 0, .int .i64 0] 27 (0, 0))) := ⟨by refine sqt ?_; refine blk_far ?_ NB180_189.out _; refine sqt ?_; refine blk_far ?_ NB180_189.out _; refine sqt ?_; exact BK180.out⟩
        have n1_ : Aside0 (((w14.setCell ⟨gb189, 0, none⟩ (.int .i64 t186)).setCell ⟨gb189, 1, none⟩ (.int .i64 t187)).heap[gb181]? = some (.cells #[.int .i64 0, .int .i64 0] 27 (0, 0))) := ⟨by refine sqt ?_; refine blk_far ?_ NB181_189.out _; refine sqt ?_; refine blk_far ?_ NB181_189.out _; refine sqt ?_; exact BK181.out⟩
        have n2_ : Aside0 (((w14.setCell ⟨gb189, 0, none⟩ (.int .i64 t186)).setCell ⟨gb189, 1, none⟩ (.int .i64 t187)).heap[gb185]? = some (.cells #[.int .i64 t182, .int .i64 t183] 27 (0, 0))) := ⟨by refine sqt ?_; refine blk_far ?_ NB185_189.out _; refine sqt ?_; refine blk_far ?_ NB185_189.out _; refine sqt ?_; exact BK185.out⟩
        have n3_ : Aside0 (((w14.setCell ⟨gb189, 0, none⟩ (.int .i64 t186)).setCell ⟨gb189, 1, none⟩ (.int .i64 t187)).heap[gb189]? = some (.cells #[.int .i64 t186, .int .i64 t187] 27 (0, 0))) := ⟨by refine sqt ?_; refine blk_put (cs := #[.int .i64 t186, .int .i64 0]) ?_ 1 _ rfl; refine sqt ?_; refine blk_put (cs := #[.int .i64 0, .int .i64 0]) ?_ 0 _ rfl; refine sqt ?_; exact BK189.out⟩
        have n4_ : Aside0 (IsS98 w0 ((w14.setCell ⟨gb189, 0, none⟩ (.int .i64 t186)).setCell ⟨gb189, 1, none⟩ (.int .i64 t187)) g s0_0 t188) := ⟨by repeat (first | (with_reducible first | exact HI0.out | apply IsS98.alloc | apply IsS98.drewN | apply IsS98.drew | apply IsS98.set_1 | refine IsS98.far ?_ NB0_180.out _ | refine IsS98.far ?_ NB0_181.out _ | refine IsS98.far ?_ NB0_185.out _ | refine IsS98.far ?_ NB0_189.out _) | exact HI0.out)⟩
        have n5_ : Aside0 (KeepBut w ((w14.setCell ⟨gb189, 0, none⟩ (.int .i64 t186)).setCell ⟨gb189, 1, none⟩ (.int .i64 t187)) g none) := ⟨by repeat (first | (with_reducible first | exact HK.out | apply KeepBut.set_ | apply keep_drewN | apply keep_drew | apply keep_alloc | refine keep_far ?_ GW180.out _ | refine keep_far ?_ GW181.out _ | refine keep_far ?_ GW185.out _ | refine keep_far ?_ GW189.out _) | exact HK.out)⟩
        have n6_ : Aside0 (Below w0.heap.size w0 ((w14.setCell ⟨gb189, 0, none⟩ (.int .i64 t186)).setCell ⟨gb189, 1, none⟩ (.int .i64 t187))) := ⟨by repeat (first | (with_reducible first | exact HB.out | apply below_alloc | apply pw_below_drewN | apply below_drew1 | refine below_set ?_ (IsS98.ge HI0.out) | refine below_set ?_ GE180.out | refine below_set ?_ GE181.out | refine below_set ?_ GE185.out | refine below_set ?_ GE189.out) | exact HB.out)⟩
        (try clear BK180)
        (try clear BK181)
        (try clear BK185)
        (try clear BK189)
        (try clear HI0)
        (try clear HK)
        (try clear HB)
        generalize ((w14.setCell ⟨gb189, 0, none⟩ (.int .i64 t186)).setCell ⟨gb189, 1, none⟩ (.int .i64 t187)) = w25 at n0_ n1_ n2_ n3_ n4_ n5_ n6_ ⊢
        have BK180 := n0_
        have BK181 := n1_
        have BK185 := n2_
        have BK189 := n3_
        have HI0 := n4_
        have HK := n5_
        have HB := n6_
        clear n0_ n1_ n2_ n3_ n4_ n5_ n6_
        replace BK180 := Aside0.mk (blk_drew BK180.out)
        replace BK181 := Aside0.mk (blk_drew BK181.out)
        replace BK185 := Aside0.mk (blk_drew BK185.out)
        replace BK189 := Aside0.mk (blk_drew BK189.out)
        replace HI0 := Aside0.mk (IsS98.drew HI0.out)
        replace HK := Aside0.mk (keep_drew HK.out)
        replace HB := Aside0.mk (below_drew1 HB.out)
        refine start_ (n := 12) (S := fun w' => w'.cell? ⟨gb185, 0, none⟩ = some (.int .i64 t182) ∧ w'.cell? ⟨gb185, 1, none⟩ = some (.int .i64 t183)) (ds := []) #[false, false, false, false, false, false, false, false, false, false, false, false] (by kernel_rfl) rfl rfl ⟨(blk_cell BK185.out 0).trans rfl, (blk_cell BK185.out 1).trans rfl⟩ (fun hHeld => ?_); refine with_tabW spec_l8Two.tab3 spec_l8Two.bits3 (fun HT_ HW_ => ?_)
        generalize w25.drew = w26 at BK180 BK181 BK185 BK189 HI0 HK HB hHeld ⊢
        refine sqp HT_ 0 10 ?_
        refine sqo HT_ 1 11 (fun K hK => ?_)
        refine sqG Try.func88 #[.pointer (some ⟨g, 0, none⟩), .int .i64 3] ?_
        with_reducible refine (spec_l1Rd_pick.calls k g s0_0 t188 3 t190 t191 w0 _ ?side1 ?side2 A20.out).mono ?_
        (case side1 => repeat (first | (with_reducible first | exact HI0.out | apply IsS98.alloc | apply IsS98.drewN | apply IsS98.drew | apply IsS98.set_1 | refine IsS98.far ?_ NB0_180.out _ | refine IsS98.far ?_ NB0_181.out _ | refine IsS98.far ?_ NB0_185.out _ | refine IsS98.far ?_ NB0_189.out _) | exact HI0.out))
        (case side2 => repeat (first | (with_reducible first | exact HB.out | apply below_alloc | apply pw_below_drewN | apply below_drew1 | refine below_set ?_ (IsS98.ge HI0.out) | refine below_set ?_ GE180.out | refine below_set ?_ GE181.out | refine below_set ?_ GE185.out | refine below_set ?_ GE189.out) | exact HB.out))
        rintro e w27 ⟨rfl, hi, hb, hk⟩
        refine ⟨_, rfl, ?_⟩
        have n0_ := Aside0.mk (KeepBut.blk hk (g' := gb180) (o := .cells #[.int .i64 0, .int .i64 0] 27 (0, 0)) (by refine sqt ?_; exact BK180.out) NB180_0.out (by simp))
        have n1_ := Aside0.mk (KeepBut.blk hk (g' := gb181) (o := .cells #[.int .i64 0, .int .i64 0] 27 (0, 0)) (by refine sqt ?_; exact BK181.out) NB181_0.out (by simp))
        have n2_ := Aside0.mk (KeepBut.blk hk (g' := gb185) (o := .cells #[.int .i64 t182, .int .i64 t183] 27 (0, 0)) (by refine sqt ?_; exact BK185.out) NB185_0.out (by simp))
        have n3_ := Aside0.mk (KeepBut.blk hk (g' := gb189) (o := .cells #[.int .i64 t186, .int .i64 t187] 27 (0, 0)) (by refine sqt ?_; exact BK189.out) NB189_0.out (by simp))
        have n4_ := Aside0.mk (KeepBut.trans (by repeat (first | (with_reducible first | exact HK.out | apply KeepBut.set_ | apply keep_drewN | apply keep_drew | apply keep_alloc | refine keep_far ?_ GW180.out _ | refine keep_far ?_ GW181.out _ | refine keep_far ?_ GW185.out _ | refine keep_far ?_ GW189.out _) | exact HK.out)) hk (.inl rfl))
        have n5_ := Aside0.mk (hb)
        have n6_ := Aside0.mk (hi)
        clear BK180
        clear BK181
        clear BK185
        clear BK189
        clear HK
        clear HB
        clear HI0
        have BK180 := n0_
        have BK181 := n1_
        have BK185 := n2_
        have BK189 := n3_
        have HK := n4_
        have HB := n5_
        have HI0 := n6_
        clear n0_ n1_ n2_ n3_ n4_ n5_ n6_
        (try clear hb)
        (try clear hb2)
        (try clear hk)
        (try clear hi)
        refine hK.out _ _ sqz (fun hHeld => ?_)
        clear hK K
        refine sqnm ?_
        refine sqp HT_ 2 12 ?_
        refine sqp HT_ 3 13 ?_
        refine sqw HT_ HW_ 4 14 hHeld ?_
        refine sqo HT_ 5 15 (fun K hK => ?_)
        refine sqG Try.func40 #[.agg #[.int .i64 t182, .int .i64 t183]] ?_
        with_reducible refine (spec_RangeOk.calls t182 t183 true _ A22.out).mono ?_
        rintro e w28 ⟨rfl, hb⟩
        refine ⟨_, rfl, ?_⟩
        have n0_ := Aside0.mk (IsS98.below (by repeat (first | (with_reducible first | exact HI0.out | apply IsS98.alloc | apply IsS98.drewN | apply IsS98.drew | apply IsS98.set_1 | refine IsS98.far ?_ NB0_180.out _ | refine IsS98.far ?_ NB0_181.out _ | refine IsS98.far ?_ NB0_185.out _ | refine IsS98.far ?_ NB0_189.out _) | exact HI0.out)) hb)
        have n1_ := sqb BK180 hb
        have n2_ := sqb BK181 hb
        have n3_ := sqb BK185 hb
        have n4_ := sqb BK189 hb
        have n5_ := Aside0.mk (KeepBut.trans (by repeat (first | (with_reducible first | exact HK.out | apply KeepBut.set_ | apply keep_drewN | apply keep_drew | apply keep_alloc | refine keep_far ?_ GW180.out _ | refine keep_far ?_ GW181.out _ | refine keep_far ?_ GW185.out _ | refine keep_far ?_ GW189.out _) | exact HK.out)) (KeepBut.of_below hb g none) (.inl rfl))
        have n6_ := Aside0.mk (below_step (by repeat (first | (with_reducible first | exact HB.out | apply below_alloc | apply pw_below_drewN | apply below_drew1 | refine below_set ?_ (IsS98.ge HI0.out) | refine below_set ?_ GE180.out | refine below_set ?_ GE181.out | refine below_set ?_ GE185.out | refine below_set ?_ GE189.out) | exact HB.out)) hb)
        clear HI0
        clear BK180
        clear BK181
        clear BK185
        clear BK189
        clear HK
        clear HB
        have HI0 := n0_
        have BK180 := n1_
        have BK181 := n2_
        have BK185 := n3_
        have BK189 := n4_
        have HK := n5_
        have HB := n6_
        clear n0_ n1_ n2_ n3_ n4_ n5_ n6_
        (try clear hb)
        refine hK.out _ _ sqz (fun hHeld => ?_)
        clear hK K
        refine sqnm ?_
        refine sqp HT_ 6 16 ?_
        refine sqp HT_ 7 17 ?_
        refine sqw HT_ HW_ 8 18 hHeld ?_
        refine sqo HT_ 9 19 (fun K hK => ?_)
        refine sqG Try.func68 #[] ?_
        with_reducible refine (spec_l8None.calls  t193 t194 _ A24.out).mono ?_
        rintro e w29 ⟨rfl, hb⟩
        refine ⟨_, rfl, ?_⟩
        have n0_ := Aside0.mk (IsS98.below (by repeat (first | (with_reducible first | exact HI0.out | apply IsS98.alloc | apply IsS98.drewN | apply IsS98.drew | apply IsS98.set_1 | refine IsS98.far ?_ NB0_180.out _ | refine IsS98.far ?_ NB0_181.out _ | refine IsS98.far ?_ NB0_185.out _ | refine IsS98.far ?_ NB0_189.out _) | exact HI0.out)) hb)
        have n1_ := sqb BK180 hb
        have n2_ := sqb BK181 hb
        have n3_ := sqb BK185 hb
        have n4_ := sqb BK189 hb
        have n5_ := Aside0.mk (KeepBut.trans (by repeat (first | (with_reducible first | exact HK.out | apply KeepBut.set_ | apply keep_drewN | apply keep_drew | apply keep_alloc | refine keep_far ?_ GW180.out _ | refine keep_far ?_ GW181.out _ | refine keep_far ?_ GW185.out _ | refine keep_far ?_ GW189.out _) | exact HK.out)) (KeepBut.of_below hb g none) (.inl rfl))
        have n6_ := Aside0.mk (below_step (by repeat (first | (with_reducible first | exact HB.out | apply below_alloc | apply pw_below_drewN | apply below_drew1 | refine below_set ?_ (IsS98.ge HI0.out) | refine below_set ?_ GE180.out | refine below_set ?_ GE181.out | refine below_set ?_ GE185.out | refine below_set ?_ GE189.out) | exact HB.out)) hb)
        clear HI0
        clear BK180
        clear BK181
        clear BK185
        clear BK189
        clear HK
        clear HB
        have HI0 := n0_
        have BK180 := n1_
        have BK181 := n2_
        have BK185 := n3_
        have BK189 := n4_
        have HK := n5_
        have HB := n6_
        clear n0_ n1_ n2_ n3_ n4_ n5_ n6_
        (try clear hb)
        refine hK.out _ _ sqz (fun hHeld => ?_)
        clear hK K
        refine sqnm ?_
        refine sqp HT_ 10 20 ?_
        refine sqp HT_ 11 21 ?_
        refine done_ (done_of HT_.out (by kernel_rfl)) ?_
        try go_wp2
        go_meet
        case rel => exact ⟨_, ((!(t182 == t193) || (!(t183 == t194)))), (t191), (by first | rfl | (simp; done) | (simp [*]; done)), H', ⟨by first | omega | exact Nat.le_refl _⟩, sqk BK180, sqk BK181, sqk BK185, sqk BK189, ⟨by repeat (first | (with_reducible first | exact HI0.out | apply IsS98.alloc | apply IsS98.drewN | apply IsS98.drew | apply IsS98.set_1 | refine IsS98.far ?_ NB0_180.out _ | refine IsS98.far ?_ NB0_181.out _ | refine IsS98.far ?_ NB0_185.out _ | refine IsS98.far ?_ NB0_189.out _) | exact HI0.out)⟩, ⟨by repeat (first | (with_reducible first | exact HK.out | apply KeepBut.set_ | apply keep_drewN | apply keep_drew | apply keep_alloc | refine keep_far ?_ GW180.out _ | refine keep_far ?_ GW181.out _ | refine keep_far ?_ GW185.out _ | refine keep_far ?_ GW189.out _) | exact HK.out)⟩, ⟨by repeat (first | (with_reducible first | exact HB.out | apply below_alloc | apply pw_below_drewN | apply below_drew1 | refine below_set ?_ (IsS98.ge HI0.out) | refine below_set ?_ GE180.out | refine below_set ?_ GE181.out | refine below_set ?_ GE185.out | refine below_set ?_ GE189.out) | exact HB.out)⟩⟩
      · replace c23 := Bool.eq_false_iff.mpr c23
        subst c23
        have H1 : (spec_l8Two.j0 k false s0_0 t191 t182 t183 t186 t187) = some (r1, r2, r3, r4, r5) := by rw [if_neg (show ¬ (false = true) by decide)] at H; exact H
        clear H
        have H := H1
        clear H1
        have H' := Aside0.mk H
        clear H
        try go_wp2
        have n0_ : Aside0 (((w14.setCell ⟨gb189, 0, none⟩ (.int .i64 t186)).setCell ⟨gb189, 1, none⟩ (.int .i64 t187)).heap[gb180]? = some (.cells #[.int .i64 0, .int .i64 0] 27 (0, 0))) := ⟨by refine sqt ?_; refine blk_far ?_ NB180_189.out _; refine sqt ?_; refine blk_far ?_ NB180_189.out _; refine sqt ?_; exact BK180.out⟩
        have n1_ : Aside0 (((w14.setCell ⟨gb189, 0, none⟩ (.int .i64 t186)).setCell ⟨gb189, 1, none⟩ (.int .i64 t187)).heap[gb181]? = some (.cells #[.int .i64 0, .int .i64 0] 27 (0, 0))) := ⟨by refine sqt ?_; refine blk_far ?_ NB181_189.out _; refine sqt ?_; refine blk_far ?_ NB181_189.out _; refine sqt ?_; exact BK181.out⟩
        have n2_ : Aside0 (((w14.setCell ⟨gb189, 0, none⟩ (.int .i64 t186)).setCell ⟨gb189, 1, none⟩ (.int .i64 t187)).heap[gb185]? = some (.cells #[.int .i64 t182, .int .i64 t183] 27 (0, 0))) := ⟨by refine sqt ?_; refine blk_far ?_ NB185_189.out _; refine sqt ?_; refine blk_far ?_ NB185_189.out _; refine sqt ?_; exact BK185.out⟩
        have n3_ : Aside0 (((w14.setCell ⟨gb189, 0, none⟩ (.int .i64 t186)).setCell ⟨gb189, 1, none⟩ (.int .i64 t187)).heap[gb189]? = some (.cells #[.int .i64 t186, .int .i64 t187] 27 (0, 0))) := ⟨by refine sqt ?_; refine blk_put (cs := #[.int .i64 t186, .int .i64 0]) ?_ 1 _ rfl; refine sqt ?_; refine blk_put (cs := #[.int .i64 0, .int .i64 0]) ?_ 0 _ rfl; refine sqt ?_; exact BK189.out⟩
        have n4_ : Aside0 (IsS98 w0 ((w14.setCell ⟨gb189, 0, none⟩ (.int .i64 t186)).setCell ⟨gb189, 1, none⟩ (.int .i64 t187)) g s0_0 t188) := ⟨by repeat (first | (with_reducible first | exact HI0.out | apply IsS98.alloc | apply IsS98.drewN | apply IsS98.drew | apply IsS98.set_1 | refine IsS98.far ?_ NB0_180.out _ | refine IsS98.far ?_ NB0_181.out _ | refine IsS98.far ?_ NB0_185.out _ | refine IsS98.far ?_ NB0_189.out _) | exact HI0.out)⟩
        have n5_ : Aside0 (KeepBut w ((w14.setCell ⟨gb189, 0, none⟩ (.int .i64 t186)).setCell ⟨gb189, 1, none⟩ (.int .i64 t187)) g none) := ⟨by repeat (first | (with_reducible first | exact HK.out | apply KeepBut.set_ | apply keep_drewN | apply keep_drew | apply keep_alloc | refine keep_far ?_ GW180.out _ | refine keep_far ?_ GW181.out _ | refine keep_far ?_ GW185.out _ | refine keep_far ?_ GW189.out _) | exact HK.out)⟩
        have n6_ : Aside0 (Below w0.heap.size w0 ((w14.setCell ⟨gb189, 0, none⟩ (.int .i64 t186)).setCell ⟨gb189, 1, none⟩ (.int .i64 t187))) := ⟨by repeat (first | (with_reducible first | exact HB.out | apply below_alloc | apply pw_below_drewN | apply below_drew1 | refine below_set ?_ (IsS98.ge HI0.out) | refine below_set ?_ GE180.out | refine below_set ?_ GE181.out | refine below_set ?_ GE185.out | refine below_set ?_ GE189.out) | exact HB.out)⟩
        (try clear BK180)
        (try clear BK181)
        (try clear BK185)
        (try clear BK189)
        (try clear HI0)
        (try clear HK)
        (try clear HB)
        generalize ((w14.setCell ⟨gb189, 0, none⟩ (.int .i64 t186)).setCell ⟨gb189, 1, none⟩ (.int .i64 t187)) = w30 at n0_ n1_ n2_ n3_ n4_ n5_ n6_ ⊢
        have BK180 := n0_
        have BK181 := n1_
        have BK185 := n2_
        have BK189 := n3_
        have HI0 := n4_
        have HK := n5_
        have HB := n6_
        clear n0_ n1_ n2_ n3_ n4_ n5_ n6_
        replace BK180 := Aside0.mk (blk_drew BK180.out)
        replace BK181 := Aside0.mk (blk_drew BK181.out)
        replace BK185 := Aside0.mk (blk_drew BK185.out)
        replace BK189 := Aside0.mk (blk_drew BK189.out)
        replace HI0 := Aside0.mk (IsS98.drew HI0.out)
        replace HK := Aside0.mk (keep_drew HK.out)
        replace HB := Aside0.mk (below_drew1 HB.out)
        refine start_ (n := 12) (S := fun w' => w'.cell? ⟨gb185, 0, none⟩ = some (.int .i64 t182) ∧ w'.cell? ⟨gb185, 1, none⟩ = some (.int .i64 t183)) (ds := []) #[false, false, false, false, false, false, false, false, false, false, false, false] (by kernel_rfl) rfl rfl ⟨(blk_cell BK185.out 0).trans rfl, (blk_cell BK185.out 1).trans rfl⟩ (fun hHeld => ?_); refine with_tabW spec_l8Two.tab3 spec_l8Two.bits3 (fun HT_ HW_ => ?_)
        generalize w30.drew = w31 at BK180 BK181 BK185 BK189 HI0 HK HB hHeld ⊢
        refine sqp HT_ 0 10 ?_
        refine sqo HT_ 1 11 (fun K hK => ?_)
        refine sqG Try.func88 #[.pointer (some ⟨g, 0, none⟩), .int .i64 3] ?_
        with_reducible refine (spec_l1Rd_pick.calls k g s0_0 t188 3 t190 t191 w0 _ ?side1 ?side2 A20.out).mono ?_
        (case side1 => repeat (first | (with_reducible first | exact HI0.out | apply IsS98.alloc | apply IsS98.drewN | apply IsS98.drew | apply IsS98.set_1 | refine IsS98.far ?_ NB0_180.out _ | refine IsS98.far ?_ NB0_181.out _ | refine IsS98.far ?_ NB0_185.out _ | refine IsS98.far ?_ NB0_189.out _) | exact HI0.out))
        (case side2 => repeat (first | (with_reducible first | exact HB.out | apply below_alloc | apply pw_below_drewN | apply below_drew1 | refine below_set ?_ (IsS98.ge HI0.out) | refine below_set ?_ GE180.out | refine below_set ?_ GE181.out | refine below_set ?_ GE185.out | refine below_set ?_ GE189.out) | exact HB.out))
        rintro e w32 ⟨rfl, hi, hb, hk⟩
        refine ⟨_, rfl, ?_⟩
        have n0_ := Aside0.mk (KeepBut.blk hk (g' := gb180) (o := .cells #[.int .i64 0, .int .i64 0] 27 (0, 0)) (by refine sqt ?_; exact BK180.out) NB180_0.out (by simp))
        have n1_ := Aside0.mk (KeepBut.blk hk (g' := gb181) (o := .cells #[.int .i64 0, .int .i64 0] 27 (0, 0)) (by refine sqt ?_; exact BK181.out) NB181_0.out (by simp))
        have n2_ := Aside0.mk (KeepBut.blk hk (g' := gb185) (o := .cells #[.int .i64 t182, .int .i64 t183] 27 (0, 0)) (by refine sqt ?_; exact BK185.out) NB185_0.out (by simp))
        have n3_ := Aside0.mk (KeepBut.blk hk (g' := gb189) (o := .cells #[.int .i64 t186, .int .i64 t187] 27 (0, 0)) (by refine sqt ?_; exact BK189.out) NB189_0.out (by simp))
        have n4_ := Aside0.mk (KeepBut.trans (by repeat (first | (with_reducible first | exact HK.out | apply KeepBut.set_ | apply keep_drewN | apply keep_drew | apply keep_alloc | refine keep_far ?_ GW180.out _ | refine keep_far ?_ GW181.out _ | refine keep_far ?_ GW185.out _ | refine keep_far ?_ GW189.out _) | exact HK.out)) hk (.inl rfl))
        have n5_ := Aside0.mk (hb)
        have n6_ := Aside0.mk (hi)
        clear BK180
        clear BK181
        clear BK185
        clear BK189
        clear HK
        clear HB
        clear HI0
        have BK180 := n0_
        have BK181 := n1_
        have BK185 := n2_
        have BK189 := n3_
        have HK := n4_
        have HB := n5_
        have HI0 := n6_
        clear n0_ n1_ n2_ n3_ n4_ n5_ n6_
        (try clear hb)
        (try clear hb2)
        (try clear hk)
        (try clear hi)
        refine hK.out _ _ sqz (fun hHeld => ?_)
        clear hK K
        refine sqnm ?_
        refine sqp HT_ 2 12 ?_
        refine sqp HT_ 3 13 ?_
        refine sqw HT_ HW_ 4 14 hHeld ?_
        refine sqo HT_ 5 15 (fun K hK => ?_)
        refine sqG Try.func40 #[.agg #[.int .i64 t182, .int .i64 t183]] ?_
        with_reducible refine (spec_RangeOk.calls t182 t183 false _ A22.out).mono ?_
        rintro e w33 ⟨rfl, hb⟩
        refine ⟨_, rfl, ?_⟩
        have n0_ := Aside0.mk (IsS98.below (by repeat (first | (with_reducible first | exact HI0.out | apply IsS98.alloc | apply IsS98.drewN | apply IsS98.drew | apply IsS98.set_1 | refine IsS98.far ?_ NB0_180.out _ | refine IsS98.far ?_ NB0_181.out _ | refine IsS98.far ?_ NB0_185.out _ | refine IsS98.far ?_ NB0_189.out _) | exact HI0.out)) hb)
        have n1_ := sqb BK180 hb
        have n2_ := sqb BK181 hb
        have n3_ := sqb BK185 hb
        have n4_ := sqb BK189 hb
        have n5_ := Aside0.mk (KeepBut.trans (by repeat (first | (with_reducible first | exact HK.out | apply KeepBut.set_ | apply keep_drewN | apply keep_drew | apply keep_alloc | refine keep_far ?_ GW180.out _ | refine keep_far ?_ GW181.out _ | refine keep_far ?_ GW185.out _ | refine keep_far ?_ GW189.out _) | exact HK.out)) (KeepBut.of_below hb g none) (.inl rfl))
        have n6_ := Aside0.mk (below_step (by repeat (first | (with_reducible first | exact HB.out | apply below_alloc | apply pw_below_drewN | apply below_drew1 | refine below_set ?_ (IsS98.ge HI0.out) | refine below_set ?_ GE180.out | refine below_set ?_ GE181.out | refine below_set ?_ GE185.out | refine below_set ?_ GE189.out) | exact HB.out)) hb)
        clear HI0
        clear BK180
        clear BK181
        clear BK185
        clear BK189
        clear HK
        clear HB
        have HI0 := n0_
        have BK180 := n1_
        have BK181 := n2_
        have BK185 := n3_
        have BK189 := n4_
        have HK := n5_
        have HB := n6_
        clear n0_ n1_ n2_ n3_ n4_ n5_ n6_
        (try clear hb)
        refine hK.out _ _ sqz (fun hHeld => ?_)
        clear hK K
        refine sqnm ?_
        refine sqp HT_ 6 16 ?_
        refine sqp HT_ 7 17 ?_
        refine sqpu HT_ 8 18 ?_
        refine sqpu HT_ 9 19 ?_
        refine sqpu HT_ 10 20 ?_
        refine sqp HT_ 11 21 ?_
        refine done_ (done_of HT_.out (by kernel_rfl)) ?_
        try go_wp2
        go_meet
        case rel => exact ⟨_, (false), (t191), (by first | rfl | (simp; done) | (simp [*]; done)), H', ⟨by first | omega | exact Nat.le_refl _⟩, sqk BK180, sqk BK181, sqk BK185, sqk BK189, ⟨by repeat (first | (with_reducible first | exact HI0.out | apply IsS98.alloc | apply IsS98.drewN | apply IsS98.drew | apply IsS98.set_1 | refine IsS98.far ?_ NB0_180.out _ | refine IsS98.far ?_ NB0_181.out _ | refine IsS98.far ?_ NB0_185.out _ | refine IsS98.far ?_ NB0_189.out _) | exact HI0.out)⟩, ⟨by repeat (first | (with_reducible first | exact HK.out | apply KeepBut.set_ | apply keep_drewN | apply keep_drew | apply keep_alloc | refine keep_far ?_ GW180.out _ | refine keep_far ?_ GW181.out _ | refine keep_far ?_ GW185.out _ | refine keep_far ?_ GW189.out _) | exact HK.out)⟩, ⟨by repeat (first | (with_reducible first | exact HB.out | apply below_alloc | apply pw_below_drewN | apply below_drew1 | refine below_set ?_ (IsS98.ge HI0.out) | refine below_set ?_ GE180.out | refine below_set ?_ GE181.out | refine below_set ?_ GE185.out | refine below_set ?_ GE189.out) | exact HB.out)⟩⟩
    · rw [if_neg c21] at H
      have c21b0 : (t190 == 0) = false := beq_eq_false_iff_ne.mpr c21
      have c21b1 : (t190 != 0) = true := bne_iff_ne.mpr c21
      (first | rw [c21b0] | (simp only [i64_w, i32_w]; rw [c21b0]) | skip)
      have H' := Aside0.mk H
      clear H
      try go_wp2
      have n0_ : Aside0 (((w14.setCell ⟨gb189, 0, none⟩ (.int .i64 t186)).setCell ⟨gb189, 1, none⟩ (.int .i64 t187)).heap[gb180]? = some (.cells #[.int .i64 0, .int .i64 0] 27 (0, 0))) := ⟨by refine sqt ?_; refine blk_far ?_ NB180_189.out _; refine sqt ?_; refine blk_far ?_ NB180_189.out _; refine sqt ?_; exact BK180.out⟩
      have n1_ : Aside0 (((w14.setCell ⟨gb189, 0, none⟩ (.int .i64 t186)).setCell ⟨gb189, 1, none⟩ (.int .i64 t187)).heap[gb181]? = some (.cells #[.int .i64 0, .int .i64 0] 27 (0, 0))) := ⟨by refine sqt ?_; refine blk_far ?_ NB181_189.out _; refine sqt ?_; refine blk_far ?_ NB181_189.out _; refine sqt ?_; exact BK181.out⟩
      have n2_ : Aside0 (((w14.setCell ⟨gb189, 0, none⟩ (.int .i64 t186)).setCell ⟨gb189, 1, none⟩ (.int .i64 t187)).heap[gb185]? = some (.cells #[.int .i64 t182, .int .i64 t183] 27 (0, 0))) := ⟨by refine sqt ?_; refine blk_far ?_ NB185_189.out _; refine sqt ?_; refine blk_far ?_ NB185_189.out _; refine sqt ?_; exact BK185.out⟩
      have n3_ : Aside0 (((w14.setCell ⟨gb189, 0, none⟩ (.int .i64 t186)).setCell ⟨gb189, 1, none⟩ (.int .i64 t187)).heap[gb189]? = some (.cells #[.int .i64 t186, .int .i64 t187] 27 (0, 0))) := ⟨by refine sqt ?_; refine blk_put (cs := #[.int .i64 t186, .int .i64 0]) ?_ 1 _ rfl; refine sqt ?_; refine blk_put (cs := #[.int .i64 0, .int .i64 0]) ?_ 0 _ rfl; refine sqt ?_; exact BK189.out⟩
      have n4_ : Aside0 (IsS98 w0 ((w14.setCell ⟨gb189, 0, none⟩ (.int .i64 t186)).setCell ⟨gb189, 1, none⟩ (.int .i64 t187)) g s0_0 t188) := ⟨by repeat (first | (with_reducible first | exact HI0.out | apply IsS98.alloc | apply IsS98.drewN | apply IsS98.drew | apply IsS98.set_1 | refine IsS98.far ?_ NB0_180.out _ | refine IsS98.far ?_ NB0_181.out _ | refine IsS98.far ?_ NB0_185.out _ | refine IsS98.far ?_ NB0_189.out _) | exact HI0.out)⟩
      have n5_ : Aside0 (KeepBut w ((w14.setCell ⟨gb189, 0, none⟩ (.int .i64 t186)).setCell ⟨gb189, 1, none⟩ (.int .i64 t187)) g none) := ⟨by repeat (first | (with_reducible first | exact HK.out | apply KeepBut.set_ | apply keep_drewN | apply keep_drew | apply keep_alloc | refine keep_far ?_ GW180.out _ | refine keep_far ?_ GW181.out _ | refine keep_far ?_ GW185.out _ | refine keep_far ?_ GW189.out _) | exact HK.out)⟩
      have n6_ : Aside0 (Below w0.heap.size w0 ((w14.setCell ⟨gb189, 0, none⟩ (.int .i64 t186)).setCell ⟨gb189, 1, none⟩ (.int .i64 t187))) := ⟨by repeat (first | (with_reducible first | exact HB.out | apply below_alloc | apply pw_below_drewN | apply below_drew1 | refine below_set ?_ (IsS98.ge HI0.out) | refine below_set ?_ GE180.out | refine below_set ?_ GE181.out | refine below_set ?_ GE185.out | refine below_set ?_ GE189.out) | exact HB.out)⟩
      (try clear BK180)
      (try clear BK181)
      (try clear BK185)
      (try clear BK189)
      (try clear HI0)
      (try clear HK)
      (try clear HB)
      generalize ((w14.setCell ⟨gb189, 0, none⟩ (.int .i64 t186)).setCell ⟨gb189, 1, none⟩ (.int .i64 t187)) = w34 at n0_ n1_ n2_ n3_ n4_ n5_ n6_ ⊢
      have BK180 := n0_
      have BK181 := n1_
      have BK185 := n2_
      have BK189 := n3_
      have HI0 := n4_
      have HK := n5_
      have HB := n6_
      clear n0_ n1_ n2_ n3_ n4_ n5_ n6_
      replace BK180 := Aside0.mk (blk_drew BK180.out)
      replace BK181 := Aside0.mk (blk_drew BK181.out)
      replace BK185 := Aside0.mk (blk_drew BK185.out)
      replace BK189 := Aside0.mk (blk_drew BK189.out)
      replace HI0 := Aside0.mk (IsS98.drew HI0.out)
      replace HK := Aside0.mk (keep_drew HK.out)
      replace HB := Aside0.mk (below_drew1 HB.out)
      refine start_ (n := 12) (S := fun w' => True) (ds := []) #[false, false, false, false, false, false, false, false, false, false, false, false] (by kernel_rfl) rfl rfl trivial (fun hHeld => ?_); refine with_tabW spec_l8Two.tab3 spec_l8Two.bits3 (fun HT_ HW_ => ?_)
      generalize w34.drew = w35 at BK180 BK181 BK185 BK189 HI0 HK HB hHeld ⊢
      refine sqp HT_ 0 10 ?_
      refine sqo HT_ 1 11 (fun K hK => ?_)
      refine sqG Try.func88 #[.pointer (some ⟨g, 0, none⟩), .int .i64 3] ?_
      with_reducible refine (spec_l1Rd_pick.calls k g s0_0 t188 3 t190 t191 w0 _ ?side1 ?side2 A20.out).mono ?_
      (case side1 => repeat (first | (with_reducible first | exact HI0.out | apply IsS98.alloc | apply IsS98.drewN | apply IsS98.drew | apply IsS98.set_1 | refine IsS98.far ?_ NB0_180.out _ | refine IsS98.far ?_ NB0_181.out _ | refine IsS98.far ?_ NB0_185.out _ | refine IsS98.far ?_ NB0_189.out _) | exact HI0.out))
      (case side2 => repeat (first | (with_reducible first | exact HB.out | apply below_alloc | apply pw_below_drewN | apply below_drew1 | refine below_set ?_ (IsS98.ge HI0.out) | refine below_set ?_ GE180.out | refine below_set ?_ GE181.out | refine below_set ?_ GE185.out | refine below_set ?_ GE189.out) | exact HB.out))
      rintro e w36 ⟨rfl, hi, hb, hk⟩
      refine ⟨_, rfl, ?_⟩
      have n0_ := Aside0.mk (KeepBut.blk hk (g' := gb180) (o := .cells #[.int .i64 0, .int .i64 0] 27 (0, 0)) (by refine sqt ?_; exact BK180.out) NB180_0.out (by simp))
      have n1_ := Aside0.mk (KeepBut.blk hk (g' := gb181) (o := .cells #[.int .i64 0, .int .i64 0] 27 (0, 0)) (by refine sqt ?_; exact BK181.out) NB181_0.out (by simp))
      have n2_ := Aside0.mk (KeepBut.blk hk (g' := gb185) (o := .cells #[.int .i64 t182, .int .i64 t183] 27 (0, 0)) (by refine sqt ?_; exact BK185.out) NB185_0.out (by simp))
      have n3_ := Aside0.mk (KeepBut.blk hk (g' := gb189) (o := .cells #[.int .i64 t186, .int .i64 t187] 27 (0, 0)) (by refine sqt ?_; exact BK189.out) NB189_0.out (by simp))
      have n4_ := Aside0.mk (KeepBut.trans (by repeat (first | (with_reducible first | exact HK.out | apply KeepBut.set_ | apply keep_drewN | apply keep_drew | apply keep_alloc | refine keep_far ?_ GW180.out _ | refine keep_far ?_ GW181.out _ | refine keep_far ?_ GW185.out _ | refine keep_far ?_ GW189.out _) | exact HK.out)) hk (.inl rfl))
      have n5_ := Aside0.mk (hb)
      have n6_ := Aside0.mk (hi)
      clear BK180
      clear BK181
      clear BK185
      clear BK189
      clear HK
      clear HB
      clear HI0
      have BK180 := n0_
      have BK181 := n1_
      have BK185 := n2_
      have BK189 := n3_
      have HK := n4_
      have HB := n5_
      have HI0 := n6_
      clear n0_ n1_ n2_ n3_ n4_ n5_ n6_
      (try clear hb)
      (try clear hb2)
      (try clear hk)
      (try clear hi)
      refine hK.out _ _ trivial (fun hHeld => ?_)
      clear hK K
      refine sqnm ?_
      refine sqp HT_ 2 12 ?_
      refine sqp HT_ 3 13 ?_
      refine sqpu HT_ 4 14 ?_
      refine sqpu HT_ 5 15 ?_
      refine sqp HT_ 6 16 ?_
      refine sqp HT_ 7 17 ?_
      refine sqpu HT_ 8 18 ?_
      refine sqpu HT_ 9 19 ?_
      refine sqpu HT_ 10 20 ?_
      refine sqp HT_ 11 21 ?_
      refine done_ (done_of HT_.out (by kernel_rfl)) ?_
      try go_wp2
      go_meet
      case rel => exact ⟨_, (false), (t191), (by first | rfl | (simp; done) | (simp [*]; done)), H', ⟨by first | omega | exact Nat.le_refl _⟩, sqk BK180, sqk BK181, sqk BK185, sqk BK189, ⟨by repeat (first | (with_reducible first | exact HI0.out | apply IsS98.alloc | apply IsS98.drewN | apply IsS98.drew | apply IsS98.set_1 | refine IsS98.far ?_ NB0_180.out _ | refine IsS98.far ?_ NB0_181.out _ | refine IsS98.far ?_ NB0_185.out _ | refine IsS98.far ?_ NB0_189.out _) | exact HI0.out)⟩, ⟨by repeat (first | (with_reducible first | exact HK.out | apply KeepBut.set_ | apply keep_drewN | apply keep_drew | apply keep_alloc | refine keep_far ?_ GW180.out _ | refine keep_far ?_ GW181.out _ | refine keep_far ?_ GW185.out _ | refine keep_far ?_ GW189.out _) | exact HK.out)⟩, ⟨by repeat (first | (with_reducible first | exact HB.out | apply below_alloc | apply pw_below_drewN | apply below_drew1 | refine below_set ?_ (IsS98.ge HI0.out) | refine below_set ?_ GE180.out | refine below_set ?_ GE181.out | refine below_set ?_ GE185.out | refine below_set ?_ GE189.out) | exact HB.out)⟩⟩
  case rest =>
    clear HC4
    obtain ⟨kq, x21_3, x1001_3, rfl, HA, HJ3, BK180, BK181, BK185, BK189, HI0, HK, HB⟩ := hcut
    cases kq with
    | zero => exact absurd HA.out (by simp [spec_l8Two.j0])
    | succ kj3 =>
      have H := HA.out
      clear HA
      simp only [spec_l8Two.j0] at H
      by_cases c37 : x21_3 = true
      · subst c37
        have H1 : ((spec_l1Rd_pick.f kj3 s0_0 x1001_3 9).bind fun bt195 => ((spec_l1Rd_pick.f kj3 s0_0 bt195.2 9).bind fun bt197 => ((spec_l8Cut.f (wrap64 ((wrap64 (t182 + bt195.1)) - 4)) (wrap64 ((wrap64 (t183 + bt197.1)) - 4))).bind fun bt199 => (some (t182, t183, bt199.1, bt199.2, bt197.2))))) = some (r1, r2, r3, r4, r5) := by rw [if_pos rfl] at H; exact H
        clear H
        have H := H1
        clear H1
        replace H := Option.bind_eq_some_iff.mp H
        obtain ⟨⟨t195, t196⟩, A380, H⟩ := H
        replace H : ((spec_l1Rd_pick.f kj3 s0_0 t196 9).bind fun bt197 => ((spec_l8Cut.f (wrap64 ((wrap64 (t182 + t195)) - 4)) (wrap64 ((wrap64 (t183 + bt197.1)) - 4))).bind fun bt199 => (some (t182, t183, bt199.1, bt199.2, bt197.2)))) = some (r1, r2, r3, r4, r5) := H
        have A38 := Aside0.mk A380
        clear A380
        replace H := Option.bind_eq_some_iff.mp H
        obtain ⟨⟨t197, t198⟩, A390, H⟩ := H
        replace H : ((spec_l8Cut.f (wrap64 ((wrap64 (t182 + t195)) - 4)) (wrap64 ((wrap64 (t183 + t197)) - 4))).bind fun bt199 => (some (t182, t183, bt199.1, bt199.2, t198))) = some (r1, r2, r3, r4, r5) := H
        have A39 := Aside0.mk A390
        clear A390
        replace H := Option.bind_eq_some_iff.mp H
        obtain ⟨⟨t199, t200⟩, A400, H⟩ := H
        replace H : (some (t182, t183, t199, t200, t198)) = some (r1, r2, r3, r4, r5) := H
        have A40 := Aside0.mk A400
        clear A400
        simp only [Option.some.injEq, Prod.mk.injEq] at H
        obtain ⟨rfl, rfl, rfl, rfl, rfl⟩ := H
        try go_wp2
        replace BK180 := Aside0.mk (blk_drew BK180.out)
        replace BK181 := Aside0.mk (blk_drew BK181.out)
        replace BK185 := Aside0.mk (blk_drew BK185.out)
        replace BK189 := Aside0.mk (blk_drew BK189.out)
        replace HI0 := Aside0.mk (IsS98.drew HI0.out)
        replace HK := Aside0.mk (keep_drew HK.out)
        replace HB := Aside0.mk (below_drew1 HB.out)
        refine start_ (n := 14) (S := fun w' => w'.cell? ⟨gb185, 0, none⟩ = some (.int .i64 t182) ∧ w'.cell? ⟨gb185, 1, none⟩ = some (.int .i64 t183)) (ds := []) #[false, false, false, false, false, false, false, false, false, false, false, false, false, false] (by kernel_rfl) rfl rfl ⟨(blk_cell BK185.out 0).trans rfl, (blk_cell BK185.out 1).trans rfl⟩ (fun hHeld => ?_); refine with_tabW spec_l8Two.tab4 spec_l8Two.bits4 (fun HT_ HW_ => ?_)
        generalize wc.drew = w41 at BK180 BK181 BK185 BK189 HI0 HK HB hHeld ⊢
        refine sqp HT_ 0 22 ?_
        refine sqp HT_ 2 24 ?_
        refine sqp HT_ 6 28 ?_
        refine sqp HT_ 8 30 ?_
        refine sqw HT_ HW_ 1 23 hHeld ?_
        refine sqw HT_ HW_ 7 29 hHeld ?_
        refine sqo HT_ 3 25 (fun K hK => ?_)
        refine sqG Try.func88 #[.pointer (some ⟨g, 0, none⟩), .int .i64 9] ?_
        with_reducible refine (spec_l1Rd_pick.calls kj3 g s0_0 x1001_3 9 t195 t196 w0 _ ?side1 ?side2 A38.out).mono ?_
        (case side1 => repeat (first | (with_reducible first | exact HI0.out | apply IsS98.alloc | apply IsS98.drewN | apply IsS98.drew | apply IsS98.set_1 | refine IsS98.far ?_ NB0_180.out _ | refine IsS98.far ?_ NB0_181.out _ | refine IsS98.far ?_ NB0_185.out _ | refine IsS98.far ?_ NB0_189.out _) | exact HI0.out))
        (case side2 => repeat (first | (with_reducible first | exact HB.out | apply below_alloc | apply pw_below_drewN | apply below_drew1 | refine below_set ?_ (IsS98.ge HI0.out) | refine below_set ?_ GE180.out | refine below_set ?_ GE181.out | refine below_set ?_ GE185.out | refine below_set ?_ GE189.out) | exact HB.out))
        rintro e w42 ⟨rfl, hi, hb, hk⟩
        refine ⟨_, rfl, ?_⟩
        have n0_ := Aside0.mk (KeepBut.blk hk (g' := gb180) (o := .cells #[.int .i64 0, .int .i64 0] 27 (0, 0)) (by refine sqt ?_; exact BK180.out) NB180_0.out (by simp))
        have n1_ := Aside0.mk (KeepBut.blk hk (g' := gb181) (o := .cells #[.int .i64 0, .int .i64 0] 27 (0, 0)) (by refine sqt ?_; exact BK181.out) NB181_0.out (by simp))
        have n2_ := Aside0.mk (KeepBut.blk hk (g' := gb185) (o := .cells #[.int .i64 t182, .int .i64 t183] 27 (0, 0)) (by refine sqt ?_; exact BK185.out) NB185_0.out (by simp))
        have n3_ := Aside0.mk (KeepBut.blk hk (g' := gb189) (o := .cells #[.int .i64 t186, .int .i64 t187] 27 (0, 0)) (by refine sqt ?_; exact BK189.out) NB189_0.out (by simp))
        have n4_ := Aside0.mk (KeepBut.trans (by repeat (first | (with_reducible first | exact HK.out | apply KeepBut.set_ | apply keep_drewN | apply keep_drew | apply keep_alloc | refine keep_far ?_ GW180.out _ | refine keep_far ?_ GW181.out _ | refine keep_far ?_ GW185.out _ | refine keep_far ?_ GW189.out _) | exact HK.out)) hk (.inl rfl))
        have n5_ := Aside0.mk (hb)
        have n6_ := Aside0.mk (hi)
        clear BK180
        clear BK181
        clear BK185
        clear BK189
        clear HK
        clear HB
        clear HI0
        have BK180 := n0_
        have BK181 := n1_
        have BK185 := n2_
        have BK189 := n3_
        have HK := n4_
        have HB := n5_
        have HI0 := n6_
        clear n0_ n1_ n2_ n3_ n4_ n5_ n6_
        (try clear hb)
        (try clear hb2)
        (try clear hk)
        (try clear hi)
        refine hK.out _ _ sqz (fun hHeld => ?_)
        clear hK K
        refine sqnm ?_
        refine sqp HT_ 4 26 ?_
        refine sqp HT_ 5 27 ?_
        refine sqo HT_ 9 31 (fun K hK => ?_)
        refine sqG Try.func88 #[.pointer (some ⟨g, 0, none⟩), .int .i64 9] ?_
        with_reducible refine (spec_l1Rd_pick.calls kj3 g s0_0 t196 9 t197 t198 w0 _ ?side1 ?side2 A39.out).mono ?_
        (case side1 => repeat (first | (with_reducible first | exact HI0.out | apply IsS98.alloc | apply IsS98.drewN | apply IsS98.drew | apply IsS98.set_1 | refine IsS98.far ?_ NB0_180.out _ | refine IsS98.far ?_ NB0_181.out _ | refine IsS98.far ?_ NB0_185.out _ | refine IsS98.far ?_ NB0_189.out _) | exact HI0.out))
        (case side2 => repeat (first | (with_reducible first | exact HB.out | apply below_alloc | apply pw_below_drewN | apply below_drew1 | refine below_set ?_ (IsS98.ge HI0.out) | refine below_set ?_ GE180.out | refine below_set ?_ GE181.out | refine below_set ?_ GE185.out | refine below_set ?_ GE189.out) | exact HB.out))
        rintro e w43 ⟨rfl, hi, hb, hk⟩
        refine ⟨_, rfl, ?_⟩
        have n0_ := Aside0.mk (KeepBut.blk hk (g' := gb180) (o := .cells #[.int .i64 0, .int .i64 0] 27 (0, 0)) (by refine sqt ?_; exact BK180.out) NB180_0.out (by simp))
        have n1_ := Aside0.mk (KeepBut.blk hk (g' := gb181) (o := .cells #[.int .i64 0, .int .i64 0] 27 (0, 0)) (by refine sqt ?_; exact BK181.out) NB181_0.out (by simp))
        have n2_ := Aside0.mk (KeepBut.blk hk (g' := gb185) (o := .cells #[.int .i64 t182, .int .i64 t183] 27 (0, 0)) (by refine sqt ?_; exact BK185.out) NB185_0.out (by simp))
        have n3_ := Aside0.mk (KeepBut.blk hk (g' := gb189) (o := .cells #[.int .i64 t186, .int .i64 t187] 27 (0, 0)) (by refine sqt ?_; exact BK189.out) NB189_0.out (by simp))
        have n4_ := Aside0.mk (KeepBut.trans (by repeat (first | (with_reducible first | exact HK.out | apply KeepBut.set_ | apply keep_drewN | apply keep_drew | apply keep_alloc | refine keep_far ?_ GW180.out _ | refine keep_far ?_ GW181.out _ | refine keep_far ?_ GW185.out _ | refine keep_far ?_ GW189.out _) | exact HK.out)) hk (.inl rfl))
        have n5_ := Aside0.mk (hb)
        have n6_ := Aside0.mk (hi)
        clear BK180
        clear BK181
        clear BK185
        clear BK189
        clear HK
        clear HB
        clear HI0
        have BK180 := n0_
        have BK181 := n1_
        have BK185 := n2_
        have BK189 := n3_
        have HK := n4_
        have HB := n5_
        have HI0 := n6_
        clear n0_ n1_ n2_ n3_ n4_ n5_ n6_
        (try clear hb)
        (try clear hb2)
        (try clear hk)
        (try clear hi)
        refine hK.out _ _ sqz (fun hHeld => ?_)
        clear hK K
        refine sqnm ?_
        refine sqp HT_ 10 32 ?_
        refine sqp HT_ 11 33 ?_
        refine sqo HT_ 12 34 (fun K hK => ?_)
        refine sqG Try.func69 #[.int .i64 (wrap64 ((wrap64 (t182 + t195)) - 4)), .int .i64 (wrap64 ((wrap64 (t183 + t197)) - 4))] ?_
        with_reducible refine (spec_l8Cut.calls (wrap64 ((wrap64 (t182 + t195)) - 4)) (wrap64 ((wrap64 (t183 + t197)) - 4)) t199 t200 _ A40.out).mono ?_
        rintro e w44 ⟨rfl, hb⟩
        refine ⟨_, rfl, ?_⟩
        have n0_ := sqb BK180 hb
        have n1_ := sqb BK181 hb
        have n2_ := sqb BK185 hb
        have n3_ := sqb BK189 hb
        have n4_ := Aside0.mk (IsS98.below (by repeat (first | (with_reducible first | exact HI0.out | apply IsS98.alloc | apply IsS98.drewN | apply IsS98.drew | apply IsS98.set_1 | refine IsS98.far ?_ NB0_180.out _ | refine IsS98.far ?_ NB0_181.out _ | refine IsS98.far ?_ NB0_185.out _ | refine IsS98.far ?_ NB0_189.out _) | exact HI0.out)) hb)
        have n5_ := Aside0.mk (KeepBut.trans (by repeat (first | (with_reducible first | exact HK.out | apply KeepBut.set_ | apply keep_drewN | apply keep_drew | apply keep_alloc | refine keep_far ?_ GW180.out _ | refine keep_far ?_ GW181.out _ | refine keep_far ?_ GW185.out _ | refine keep_far ?_ GW189.out _) | exact HK.out)) (KeepBut.of_below hb g none) (.inl rfl))
        have n6_ := Aside0.mk (below_step (by repeat (first | (with_reducible first | exact HB.out | apply below_alloc | apply pw_below_drewN | apply below_drew1 | refine below_set ?_ (IsS98.ge HI0.out) | refine below_set ?_ GE180.out | refine below_set ?_ GE181.out | refine below_set ?_ GE185.out | refine below_set ?_ GE189.out) | exact HB.out)) hb)
        clear BK180
        clear BK181
        clear BK185
        clear BK189
        clear HI0
        clear HK
        clear HB
        have BK180 := n0_
        have BK181 := n1_
        have BK185 := n2_
        have BK189 := n3_
        have HI0 := n4_
        have HK := n5_
        have HB := n6_
        clear n0_ n1_ n2_ n3_ n4_ n5_ n6_
        (try clear hb)
        refine hK.out _ _ sqz (fun hHeld => ?_)
        clear hK K
        refine sqnm ?_
        refine one_ (i := 13) (N := none) #[true, true, true, true, true, true, true, true, true, true, true, true, true, true] rfl rfl (one_of HT_.out (by kernel_rfl)) (by decide) (fun K hK => ?_)
        have hs45 : w44.cell? ⟨gb189, 0, none⟩ = some (.int .i64 t186) := (blk_cell BK189.out 0).trans rfl
        have hfs45 := blk_frozen BK189.out 0
        have hns45_0 := NB180_189.out
        have hns45_1 := NB181_189.out
        have hns45_2 := NB185_189.out
        have hms45_0 := NB189_180.out
        have hms45_1 := NB189_181.out
        have hms45_2 := NB189_185.out
        have hs46 : w44.cell? ⟨gb189, 1, none⟩ = some (.int .i64 t187) := (blk_cell BK189.out 1).trans rfl
        have hfs46 := blk_frozen BK189.out 1
        have hns46_0 := NB180_189.out
        have hns46_1 := NB181_189.out
        have hns46_2 := NB185_189.out
        have hms46_0 := NB189_180.out
        have hms46_1 := NB189_181.out
        have hms46_2 := NB189_185.out
        refine skip_ (w1 := ?_) (by rfl) rfl ?_ ?_
        rotate_left
        · go_simp
          rfl
        refine hK.out _ _ ⟨((cell_far (p := ⟨gb189, _, none⟩) NB185_189.out _).trans (((cell_far (p := ⟨gb189, _, none⟩) NB185_189.out _).trans (hHeld.1)))), ((cell_far (p := ⟨gb189, _, none⟩) NB185_189.out _).trans (((cell_far (p := ⟨gb189, _, none⟩) NB185_189.out _).trans (hHeld.2))))⟩ (fun hHeld => ?_)
        clear hK K
        refine done_ (done_of HT_.out (by kernel_rfl)) ?_
        try go_wp2
        have n0_ : Aside0 (((w44.setCell ⟨gb189, 0, none⟩ (.int .i64 t199)).setCell ⟨gb189, 1, none⟩ (.int .i64 t200)).heap[gb180]? = some (.cells #[.int .i64 0, .int .i64 0] 27 (0, 0))) := ⟨by refine sqt ?_; refine blk_far ?_ NB180_189.out _; refine sqt ?_; refine blk_far ?_ NB180_189.out _; refine sqt ?_; exact BK180.out⟩
        have n1_ : Aside0 (((w44.setCell ⟨gb189, 0, none⟩ (.int .i64 t199)).setCell ⟨gb189, 1, none⟩ (.int .i64 t200)).heap[gb181]? = some (.cells #[.int .i64 0, .int .i64 0] 27 (0, 0))) := ⟨by refine sqt ?_; refine blk_far ?_ NB181_189.out _; refine sqt ?_; refine blk_far ?_ NB181_189.out _; refine sqt ?_; exact BK181.out⟩
        have n2_ : Aside0 (((w44.setCell ⟨gb189, 0, none⟩ (.int .i64 t199)).setCell ⟨gb189, 1, none⟩ (.int .i64 t200)).heap[gb185]? = some (.cells #[.int .i64 t182, .int .i64 t183] 27 (0, 0))) := ⟨by refine sqt ?_; refine blk_far ?_ NB185_189.out _; refine sqt ?_; refine blk_far ?_ NB185_189.out _; refine sqt ?_; exact BK185.out⟩
        have n3_ : Aside0 (((w44.setCell ⟨gb189, 0, none⟩ (.int .i64 t199)).setCell ⟨gb189, 1, none⟩ (.int .i64 t200)).heap[gb189]? = some (.cells #[.int .i64 t199, .int .i64 t200] 27 (0, 0))) := ⟨by refine sqt ?_; refine blk_put (cs := #[.int .i64 t199, .int .i64 t187]) ?_ 1 _ rfl; refine sqt ?_; refine blk_put (cs := #[.int .i64 t186, .int .i64 t187]) ?_ 0 _ rfl; refine sqt ?_; exact BK189.out⟩
        have n4_ : Aside0 (IsS98 w0 ((w44.setCell ⟨gb189, 0, none⟩ (.int .i64 t199)).setCell ⟨gb189, 1, none⟩ (.int .i64 t200)) g s0_0 t198) := ⟨by repeat (first | (with_reducible first | exact HI0.out | apply IsS98.alloc | apply IsS98.drewN | apply IsS98.drew | apply IsS98.set_1 | refine IsS98.far ?_ NB0_180.out _ | refine IsS98.far ?_ NB0_181.out _ | refine IsS98.far ?_ NB0_185.out _ | refine IsS98.far ?_ NB0_189.out _) | exact HI0.out)⟩
        have n5_ : Aside0 (KeepBut w ((w44.setCell ⟨gb189, 0, none⟩ (.int .i64 t199)).setCell ⟨gb189, 1, none⟩ (.int .i64 t200)) g none) := ⟨by repeat (first | (with_reducible first | exact HK.out | apply KeepBut.set_ | apply keep_drewN | apply keep_drew | apply keep_alloc | refine keep_far ?_ GW180.out _ | refine keep_far ?_ GW181.out _ | refine keep_far ?_ GW185.out _ | refine keep_far ?_ GW189.out _) | exact HK.out)⟩
        have n6_ : Aside0 (Below w0.heap.size w0 ((w44.setCell ⟨gb189, 0, none⟩ (.int .i64 t199)).setCell ⟨gb189, 1, none⟩ (.int .i64 t200))) := ⟨by repeat (first | (with_reducible first | exact HB.out | apply below_alloc | apply pw_below_drewN | apply below_drew1 | refine below_set ?_ (IsS98.ge HI0.out) | refine below_set ?_ GE180.out | refine below_set ?_ GE181.out | refine below_set ?_ GE185.out | refine below_set ?_ GE189.out) | exact HB.out)⟩
        (try clear BK180)
        (try clear BK181)
        (try clear BK185)
        (try clear BK189)
        (try clear HI0)
        (try clear HK)
        (try clear HB)
        generalize ((w44.setCell ⟨gb189, 0, none⟩ (.int .i64 t199)).setCell ⟨gb189, 1, none⟩ (.int .i64 t200)) = w47 at n0_ n1_ n2_ n3_ n4_ n5_ n6_ ⊢
        have BK180 := n0_
        have BK181 := n1_
        have BK185 := n2_
        have BK189 := n3_
        have HI0 := n4_
        have HK := n5_
        have HB := n6_
        clear n0_ n1_ n2_ n3_ n4_ n5_ n6_
        replace BK180 := Aside0.mk (blk_drew BK180.out)
        replace BK181 := Aside0.mk (blk_drew BK181.out)
        replace BK185 := Aside0.mk (blk_drew BK185.out)
        replace BK189 := Aside0.mk (blk_drew BK189.out)
        replace HI0 := Aside0.mk (IsS98.drew HI0.out)
        replace HK := Aside0.mk (keep_drew HK.out)
        replace HB := Aside0.mk (below_drew1 HB.out)
        refine start_ (n := 4) (S := fun w' => w'.cell? ⟨gb185, 0, none⟩ = some (.int .i64 t182) ∧ w'.cell? ⟨gb185, 1, none⟩ = some (.int .i64 t183) ∧ w'.cell? ⟨gb189, 0, none⟩ = some (.int .i64 t199) ∧ w'.cell? ⟨gb189, 1, none⟩ = some (.int .i64 t200)) (ds := []) #[false, false, false, false] (by kernel_rfl) rfl rfl ⟨(blk_cell BK185.out 0).trans rfl, (blk_cell BK185.out 1).trans rfl, (blk_cell BK189.out 0).trans rfl, (blk_cell BK189.out 1).trans rfl⟩ (fun hHeld => ?_)
        generalize w47.drew = w48 at BK180 BK181 BK185 BK189 HI0 HK HB hHeld ⊢
        refine take_ (i := 0) (N := some 35) (v := ?_) (a' := ?_) #[true, false, false, false] rfl rfl (by kernel_rfl) (fun _ _ _ h => h) (Or.inl ⟨by rfl, ?_⟩) hHeld ?_ ?_
        rotate_left
        · rintro w' ⟨s0, s1, s2, s3⟩
          go_simp
          with_reducible rfl
        rotate_left
        · simp only [Act.put, List.setIfInBounds_toArray, List.set_cons_zero, List.set_cons_succ, i64_w, i32_w]
          rfl
        refine take_ (i := 1) (N := some 36) (v := ?_) (a' := ?_) #[true, true, false, false] rfl rfl (by kernel_rfl) (fun _ _ _ h => h) (Or.inl ⟨by rfl, ?_⟩) hHeld ?_ ?_
        rotate_left
        · rintro w' ⟨s0, s1, s2, s3⟩
          go_simp
          with_reducible rfl
        rotate_left
        · simp only [Act.put, List.setIfInBounds_toArray, List.set_cons_zero, List.set_cons_succ, i64_w, i32_w]
          rfl
        refine one_ (i := 2) (N := none) #[true, true, true, false] rfl rfl (by kernel_rfl) (by decide) (fun K hK => ?_)
        have hs49 : w48.cell? ⟨gb180, 0, none⟩ = some (.int .i64 0) := (blk_cell BK180.out 0).trans rfl
        have hfs49 := blk_frozen BK180.out 0
        have hns49_1 := NB181_180.out
        have hns49_2 := NB185_180.out
        have hns49_3 := NB189_180.out
        have hms49_1 := NB180_181.out
        have hms49_2 := NB180_185.out
        have hms49_3 := NB180_189.out
        have hs50 : w48.cell? ⟨gb180, 1, none⟩ = some (.int .i64 0) := (blk_cell BK180.out 1).trans rfl
        have hfs50 := blk_frozen BK180.out 1
        have hns50_1 := NB181_180.out
        have hns50_2 := NB185_180.out
        have hns50_3 := NB189_180.out
        have hms50_1 := NB180_181.out
        have hms50_2 := NB180_185.out
        have hms50_3 := NB180_189.out
        refine skip_ (w1 := ?_) (by rfl) rfl ?_ ?_
        rotate_left
        · go_simp
          rfl
        refine hK.out _ _ ⟨((cell_far (p := ⟨gb180, _, none⟩) NB185_180.out _).trans (((cell_far (p := ⟨gb180, _, none⟩) NB185_180.out _).trans (hHeld.1)))), ((cell_far (p := ⟨gb180, _, none⟩) NB185_180.out _).trans (((cell_far (p := ⟨gb180, _, none⟩) NB185_180.out _).trans (hHeld.2.1)))), ((cell_far (p := ⟨gb180, _, none⟩) NB189_180.out _).trans (((cell_far (p := ⟨gb180, _, none⟩) NB189_180.out _).trans (hHeld.2.2.1)))), ((cell_far (p := ⟨gb180, _, none⟩) NB189_180.out _).trans (((cell_far (p := ⟨gb180, _, none⟩) NB189_180.out _).trans (hHeld.2.2.2))))⟩ (fun hHeld => ?_)
        clear hK K
        refine one_ (i := 3) (N := none) #[true, true, true, true] rfl rfl (by kernel_rfl) (by decide) (fun K hK => ?_)
        have hs51 : w48.cell? ⟨gb181, 0, none⟩ = some (.int .i64 0) := (blk_cell BK181.out 0).trans rfl
        have hfs51 := blk_frozen BK181.out 0
        have hns51_0 := NB180_181.out
        have hns51_2 := NB185_181.out
        have hns51_3 := NB189_181.out
        have hms51_0 := NB181_180.out
        have hms51_2 := NB181_185.out
        have hms51_3 := NB181_189.out
        have hs52 : w48.cell? ⟨gb181, 1, none⟩ = some (.int .i64 0) := (blk_cell BK181.out 1).trans rfl
        have hfs52 := blk_frozen BK181.out 1
        have hns52_0 := NB180_181.out
        have hns52_2 := NB185_181.out
        have hns52_3 := NB189_181.out
        have hms52_0 := NB181_180.out
        have hms52_2 := NB181_185.out
        have hms52_3 := NB181_189.out
        refine skip_ (w1 := ?_) (by rfl) rfl ?_ ?_
        rotate_left
        · go_simp
          rfl
        refine hK.out _ _ ⟨((cell_far (p := ⟨gb181, _, none⟩) NB185_181.out _).trans (((cell_far (p := ⟨gb181, _, none⟩) NB185_181.out _).trans (hHeld.1)))), ((cell_far (p := ⟨gb181, _, none⟩) NB185_181.out _).trans (((cell_far (p := ⟨gb181, _, none⟩) NB185_181.out _).trans (hHeld.2.1)))), ((cell_far (p := ⟨gb181, _, none⟩) NB189_181.out _).trans (((cell_far (p := ⟨gb181, _, none⟩) NB189_181.out _).trans (hHeld.2.2.1)))), ((cell_far (p := ⟨gb181, _, none⟩) NB189_181.out _).trans (((cell_far (p := ⟨gb181, _, none⟩) NB189_181.out _).trans (hHeld.2.2.2))))⟩ (fun hHeld => ?_)
        clear hK K
        refine done_ (by kernel_rfl) ?_
        try go_wp2
        refine bodyPost_ret (results_cc rfl _ _ gb180 gb181 27 27 #[.int .i64 t182, .int .i64 t183] #[.int .i64 t199, .int .i64 t200] (0, 0) (0, 0) _ _ rfl (by refine sqt ?_; refine blk_far ?_ NB180_181.out _; refine sqt ?_; refine blk_far ?_ NB180_181.out _; refine sqt ?_; refine blk_put (cs := #[.int .i64 t182, .int .i64 0]) ?_ 1 _ rfl; refine sqt ?_; refine blk_put (cs := #[.int .i64 0, .int .i64 0]) ?_ 0 _ rfl; refine sqt ?_; exact BK180.out) Try.underlying27 rfl (by kernel_rfl) rfl (by refine sqt ?_; refine blk_put (cs := #[.int .i64 t199, .int .i64 0]) ?_ 1 _ rfl; refine sqt ?_; refine blk_put (cs := #[.int .i64 0, .int .i64 0]) ?_ 0 _ rfl; refine sqt ?_; refine blk_far ?_ NB181_180.out _; refine sqt ?_; refine blk_far ?_ NB181_180.out _; refine sqt ?_; exact BK181.out) Try.underlying27 rfl (by kernel_rfl)) rfl ?_
        exact ⟨by first | rfl | (simp [errW_none, errW_some] <;> rfl) | (simp [*, errW_none, errW_some] <;> rfl), by repeat (first | (with_reducible first | exact HI0.out | apply IsS98.alloc | apply IsS98.drewN | apply IsS98.drew | apply IsS98.set_1 | refine IsS98.far ?_ NB0_180.out _ | refine IsS98.far ?_ NB0_181.out _ | refine IsS98.far ?_ NB0_185.out _ | refine IsS98.far ?_ NB0_189.out _) | exact HI0.out), by repeat (first | (with_reducible first | exact HB.out | apply below_alloc | apply pw_below_drewN | apply below_drew1 | refine below_set ?_ (IsS98.ge HI0.out) | refine below_set ?_ GE180.out | refine below_set ?_ GE181.out | refine below_set ?_ GE185.out | refine below_set ?_ GE189.out) | exact HB.out), by repeat (first | (with_reducible first | exact HK.out | apply KeepBut.set_ | apply keep_drewN | apply keep_drew | apply keep_alloc | refine keep_far ?_ GW180.out _ | refine keep_far ?_ GW181.out _ | refine keep_far ?_ GW185.out _ | refine keep_far ?_ GW189.out _) | exact HK.out)⟩
      · replace c37 := Bool.eq_false_iff.mpr c37
        subst c37
        have H1 : (some (t182, t183, t186, t187, x1001_3)) = some (r1, r2, r3, r4, r5) := by rw [if_neg (show ¬ (false = true) by decide)] at H; exact H
        clear H
        have H := H1
        clear H1
        simp only [Option.some.injEq, Prod.mk.injEq] at H
        obtain ⟨rfl, rfl, rfl, rfl, rfl⟩ := H
        try go_wp2
        replace BK180 := Aside0.mk (blk_drew BK180.out)
        replace BK181 := Aside0.mk (blk_drew BK181.out)
        replace BK185 := Aside0.mk (blk_drew BK185.out)
        replace BK189 := Aside0.mk (blk_drew BK189.out)
        replace HI0 := Aside0.mk (IsS98.drew HI0.out)
        replace HK := Aside0.mk (keep_drew HK.out)
        replace HB := Aside0.mk (below_drew1 HB.out)
        refine start_ (n := 4) (S := fun w' => w'.cell? ⟨gb185, 0, none⟩ = some (.int .i64 t182) ∧ w'.cell? ⟨gb185, 1, none⟩ = some (.int .i64 t183) ∧ w'.cell? ⟨gb189, 0, none⟩ = some (.int .i64 t186) ∧ w'.cell? ⟨gb189, 1, none⟩ = some (.int .i64 t187)) (ds := []) #[false, false, false, false] (by kernel_rfl) rfl rfl ⟨(blk_cell BK185.out 0).trans rfl, (blk_cell BK185.out 1).trans rfl, (blk_cell BK189.out 0).trans rfl, (blk_cell BK189.out 1).trans rfl⟩ (fun hHeld => ?_)
        generalize wc.drew = w53 at BK180 BK181 BK185 BK189 HI0 HK HB hHeld ⊢
        refine take_ (i := 0) (N := some 35) (v := ?_) (a' := ?_) #[true, false, false, false] rfl rfl (by kernel_rfl) (fun _ _ _ h => h) (Or.inl ⟨by rfl, ?_⟩) hHeld ?_ ?_
        rotate_left
        · rintro w' ⟨s0, s1, s2, s3⟩
          go_simp
          with_reducible rfl
        rotate_left
        · simp only [Act.put, List.setIfInBounds_toArray, List.set_cons_zero, List.set_cons_succ, i64_w, i32_w]
          rfl
        refine take_ (i := 1) (N := some 36) (v := ?_) (a' := ?_) #[true, true, false, false] rfl rfl (by kernel_rfl) (fun _ _ _ h => h) (Or.inl ⟨by rfl, ?_⟩) hHeld ?_ ?_
        rotate_left
        · rintro w' ⟨s0, s1, s2, s3⟩
          go_simp
          with_reducible rfl
        rotate_left
        · simp only [Act.put, List.setIfInBounds_toArray, List.set_cons_zero, List.set_cons_succ, i64_w, i32_w]
          rfl
        refine one_ (i := 2) (N := none) #[true, true, true, false] rfl rfl (by kernel_rfl) (by decide) (fun K hK => ?_)
        have hs54 : w53.cell? ⟨gb180, 0, none⟩ = some (.int .i64 0) := (blk_cell BK180.out 0).trans rfl
        have hfs54 := blk_frozen BK180.out 0
        have hns54_1 := NB181_180.out
        have hns54_2 := NB185_180.out
        have hns54_3 := NB189_180.out
        have hms54_1 := NB180_181.out
        have hms54_2 := NB180_185.out
        have hms54_3 := NB180_189.out
        have hs55 : w53.cell? ⟨gb180, 1, none⟩ = some (.int .i64 0) := (blk_cell BK180.out 1).trans rfl
        have hfs55 := blk_frozen BK180.out 1
        have hns55_1 := NB181_180.out
        have hns55_2 := NB185_180.out
        have hns55_3 := NB189_180.out
        have hms55_1 := NB180_181.out
        have hms55_2 := NB180_185.out
        have hms55_3 := NB180_189.out
        refine skip_ (w1 := ?_) (by rfl) rfl ?_ ?_
        rotate_left
        · go_simp
          rfl
        refine hK.out _ _ ⟨((cell_far (p := ⟨gb180, _, none⟩) NB185_180.out _).trans (((cell_far (p := ⟨gb180, _, none⟩) NB185_180.out _).trans (hHeld.1)))), ((cell_far (p := ⟨gb180, _, none⟩) NB185_180.out _).trans (((cell_far (p := ⟨gb180, _, none⟩) NB185_180.out _).trans (hHeld.2.1)))), ((cell_far (p := ⟨gb180, _, none⟩) NB189_180.out _).trans (((cell_far (p := ⟨gb180, _, none⟩) NB189_180.out _).trans (hHeld.2.2.1)))), ((cell_far (p := ⟨gb180, _, none⟩) NB189_180.out _).trans (((cell_far (p := ⟨gb180, _, none⟩) NB189_180.out _).trans (hHeld.2.2.2))))⟩ (fun hHeld => ?_)
        clear hK K
        refine one_ (i := 3) (N := none) #[true, true, true, true] rfl rfl (by kernel_rfl) (by decide) (fun K hK => ?_)
        have hs56 : w53.cell? ⟨gb181, 0, none⟩ = some (.int .i64 0) := (blk_cell BK181.out 0).trans rfl
        have hfs56 := blk_frozen BK181.out 0
        have hns56_0 := NB180_181.out
        have hns56_2 := NB185_181.out
        have hns56_3 := NB189_181.out
        have hms56_0 := NB181_180.out
        have hms56_2 := NB181_185.out
        have hms56_3 := NB181_189.out
        have hs57 : w53.cell? ⟨gb181, 1, none⟩ = some (.int .i64 0) := (blk_cell BK181.out 1).trans rfl
        have hfs57 := blk_frozen BK181.out 1
        have hns57_0 := NB180_181.out
        have hns57_2 := NB185_181.out
        have hns57_3 := NB189_181.out
        have hms57_0 := NB181_180.out
        have hms57_2 := NB181_185.out
        have hms57_3 := NB181_189.out
        refine skip_ (w1 := ?_) (by rfl) rfl ?_ ?_
        rotate_left
        · go_simp
          rfl
        refine hK.out _ _ ⟨((cell_far (p := ⟨gb181, _, none⟩) NB185_181.out _).trans (((cell_far (p := ⟨gb181, _, none⟩) NB185_181.out _).trans (hHeld.1)))), ((cell_far (p := ⟨gb181, _, none⟩) NB185_181.out _).trans (((cell_far (p := ⟨gb181, _, none⟩) NB185_181.out _).trans (hHeld.2.1)))), ((cell_far (p := ⟨gb181, _, none⟩) NB189_181.out _).trans (((cell_far (p := ⟨gb181, _, none⟩) NB189_181.out _).trans (hHeld.2.2.1)))), ((cell_far (p := ⟨gb181, _, none⟩) NB189_181.out _).trans (((cell_far (p := ⟨gb181, _, none⟩) NB189_181.out _).trans (hHeld.2.2.2))))⟩ (fun hHeld => ?_)
        clear hK K
        refine done_ (by kernel_rfl) ?_
        try go_wp2
        refine bodyPost_ret (results_cc rfl _ _ gb180 gb181 27 27 #[.int .i64 t182, .int .i64 t183] #[.int .i64 t186, .int .i64 t187] (0, 0) (0, 0) _ _ rfl (by refine sqt ?_; refine blk_far ?_ NB180_181.out _; refine sqt ?_; refine blk_far ?_ NB180_181.out _; refine sqt ?_; refine blk_put (cs := #[.int .i64 t182, .int .i64 0]) ?_ 1 _ rfl; refine sqt ?_; refine blk_put (cs := #[.int .i64 0, .int .i64 0]) ?_ 0 _ rfl; refine sqt ?_; exact BK180.out) Try.underlying27 rfl (by kernel_rfl) rfl (by refine sqt ?_; refine blk_put (cs := #[.int .i64 t186, .int .i64 0]) ?_ 1 _ rfl; refine sqt ?_; refine blk_put (cs := #[.int .i64 0, .int .i64 0]) ?_ 0 _ rfl; refine sqt ?_; refine blk_far ?_ NB181_180.out _; refine sqt ?_; refine blk_far ?_ NB181_180.out _; refine sqt ?_; exact BK181.out) Try.underlying27 rfl (by kernel_rfl)) rfl ?_
        exact ⟨by first | rfl | (simp [errW_none, errW_some] <;> rfl) | (simp [*, errW_none, errW_some] <;> rfl), by repeat (first | (with_reducible first | exact HI0.out | apply IsS98.alloc | apply IsS98.drewN | apply IsS98.drew | apply IsS98.set_1 | refine IsS98.far ?_ NB0_180.out _ | refine IsS98.far ?_ NB0_181.out _ | refine IsS98.far ?_ NB0_185.out _ | refine IsS98.far ?_ NB0_189.out _) | exact HI0.out), by repeat (first | (with_reducible first | exact HB.out | apply below_alloc | apply pw_below_drewN | apply below_drew1 | refine below_set ?_ (IsS98.ge HI0.out) | refine below_set ?_ GE180.out | refine below_set ?_ GE181.out | refine below_set ?_ GE185.out | refine below_set ?_ GE189.out) | exact HB.out), by repeat (first | (with_reducible first | exact HK.out | apply KeepBut.set_ | apply keep_drewN | apply keep_drew | apply keep_alloc | refine keep_far ?_ GW180.out _ | refine keep_far ?_ GW181.out _ | refine keep_far ?_ GW185.out _ | refine keep_far ?_ GW189.out _) | exact HK.out)⟩

end Go.Proofs.Ytmdcgkkkfncieaa.PFnRangeLattice
