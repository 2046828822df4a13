/- Functions of the program as plain Lean functions, and that calls of them come to what these tell. Conditions: those in each law. -/
import Derived.Test.YtmdcgkkkfncieaaSq
import Derived.Test.YtmdcgkkkfncieaaDFnRangeStill
import Derived.Test.YtmdcgkkkfncieaaQFnRangeStillx0
import Derived.Test.YtmdcgkkkfncieaaQFnRangeStillx1
import Derived.Test.YtmdcgkkkfncieaaQFnRangeStillx2
import Derived.Test.YtmdcgkkkfncieaaQFnRangeStillx3
import Derived.Test.YtmdcgkkkfncieaaQFnRangeStillx4
import Derived.Test.YtmdcgkkkfncieaaQFnRangeStillx5
namespace Go.Proofs.Ytmdcgkkkfncieaa.PFnRangeStill
open Go.RowKit Go.Proofs.Ytmdcgkkkfncieaa.Sq Go.Proofs.YtmdcgkkkfncieaaW.PrintWords Go.Proofs.YtmdcgkkkfncieaaW.PrintLast Go.Proofs.YtmdcgkkkfncieaaW.PrintMore
attribute [local go_sem] max2_int min2_int max_two min_two max_three min_three max_four min_four   -- for this text's walks alone
set_option linter.unusedVariables false
set_option linter.unusedSimpArgs false

attribute [local go_sem high] eqA27
/-! ### spec_l8Two: function 96 -/
theorem spec_l8Two.mono_l : ∀ k, (∀ y0 y1 y2 y3 y4 y5 y6, LeO (spec_l8Two.j0 k y0 y1 y2 y3 y4 y5 y6) (spec_l8Two.j0 (k + 1) y0 y1 y2 y3 y4 y5 y6))
  | 0 => fun _ _ _ _ _ _ _ r h => by simp [spec_l8Two.j0] at h
  | k + 1 => by
    have ih0 := spec_l8Two.mono_l k
    · intro y0 y1 y2 y3 y4 y5 y6
      unfold spec_l8Two.j0
      repeat' first
      | (with_reducible exact ih0 _ _ _ _ _ _ _)
      | (with_reducible exact spec_l1Rd_pick.mono _ _ _ _)
      | (with_reducible exact spec_l8Wild.mono _ _ _)
      | (with_reducible exact LeO.refl _)
      | (with_reducible exact LeO.none _)
      | (with_reducible refine LeO.ite ?_ ?_)
      | (with_reducible refine LeO.bind ?_ (fun _ => ?_))
      | exact ih0 _ _ _ _ _ _ _
      | exact spec_l1Rd_pick.mono _ _ _ _
      | exact spec_l8Wild.mono _ _ _
      | exact LeO.none _
      | refine LeO.ite ?_ ?_
      | refine LeO.bind ?_ (fun _ => ?_)
theorem spec_l8Two.mono : ∀ a0 a1 k, LeO (spec_l8Two.f k a0 a1) (spec_l8Two.f (k + 1) a0 a1) := by
  intro a0 a1 k
  have ih0 := spec_l8Two.mono_l k
  unfold spec_l8Two.f
  repeat' first
      | (with_reducible exact ih0 _ _ _ _ _ _ _)
      | (with_reducible exact spec_l1Rd_pick.mono _ _ _ _)
      | (with_reducible exact spec_l8Wild.mono _ _ _)
      | (with_reducible exact LeO.refl _)
      | (with_reducible exact LeO.none _)
      | (with_reducible refine LeO.ite ?_ ?_)
      | (with_reducible refine LeO.bind ?_ (fun _ => ?_))
      | exact ih0 _ _ _ _ _ _ _
      | exact spec_l1Rd_pick.mono _ _ _ _
      | exact spec_l8Wild.mono _ _ _
      | exact LeO.none _
      | refine LeO.ite ?_ ?_
      | refine LeO.bind ?_ (fun _ => ?_)
def spec_l8Two.T3 : Bool × List (List Nat × List Nat) := (true, [([], []), ([0], [0]), ([1], [1]), ([2, 1], [2]), ([3], [3]), ([4, 3, 3], [3, 4]), ([3, 5], [3, 5]), ([6, 5], [6]), ([7], [7]), ([7, 7], [7]), ([8, 9, 7], [7, 8, 9]), ([7, 10], [7, 10])])
def spec_l8Two.B3 : List Nat := [0, 1, 3, 7, 15, 31, 63, 127, 255, 255, 1023, 2047]
theorem spec_l8Two.tab3 : rtab .any (opsOf Try.f96 3) = spec_l8Two.T3 := by kernel_rfl
theorem spec_l8Two.bits3 : waitsOk spec_l8Two.T3.2 spec_l8Two.B3 = true := by kernel_rfl
def spec_l8Two.T4 : Bool × List (List Nat × List Nat) := (true, [([], []), ([0], [0]), ([], []), ([2], [2]), ([1, 3], [1, 3]), ([4], [4]), ([], []), ([6], [6]), ([], []), ([8, 3], [8]), ([7, 9], [7, 9]), ([10], [10]), ([5, 11, 9], [5, 11]), ([12, 12, 0, 1, 2, 3, 4, 5, 6, 7, 8, 9, 10, 11, 12], [12])])
def spec_l8Two.B4 : List Nat := [0, 1, 0, 4, 15, 31, 0, 64, 0, 268, 972, 1996, 4095, 8191]
theorem spec_l8Two.tab4 : rtab .any (opsOf Try.f96 4) = spec_l8Two.T4 := by kernel_rfl
theorem spec_l8Two.bits4 : waitsOk spec_l8Two.T4.2 spec_l8Two.B4 = true := by kernel_rfl
set_option maxHeartbeats 8000000 in
set_option maxRecDepth 100000 in
theorem spec_l8Two.calls (k : Nat) (g : Nat) (s0_0 : List Int) (s0_1 : Int) (r1 : Int) (r2 : Int) (r3 : Int) (r4 : Int) (r5 : Int) (w0 w : World) (hI : IsS98 w0 w g s0_0 s0_1) (hB : Below w0.heap.size w0 w) (h : spec_l8Two.f k s0_0 s0_1 = some (r1, r2, r3, r4, r5)) :
    Calls Try.prog 96 #[.pointer (some ⟨g, 0, none⟩)] w fun e w' => e = .returned (.tuple #[.agg #[.int .i64 r1, .int .i64 r2], .agg #[.int .i64 r3, .int .i64 r4]]) ∧ IsS98 w0 w' g s0_0 r5 ∧ Below w0.heap.size w0 w' ∧ KeepBut w w' g none := by
  have hu27 := Try.underlying27
  have HI0 := Aside0.mk hI
  have HK := Aside0.mk (KeepBut.refl w g none)
  have HL := Aside0.mk hB.size
  clear hI
  have HW0 := Aside0.mk hB.size
  have HB := Aside0.mk hB
  clear hB
  have H : ((spec_l8Wild.f k s0_0 s0_1).bind fun bt185 => ((spec_l8Wild.f k s0_0 bt185.2.2).bind fun bt189 => ((spec_l1Rd_pick.f k s0_0 bt189.2.2 3).bind fun bt193 => (if bt193.1 = 0 then ((spec_RangeOk.f bt185.1 bt185.2.1).bind fun t195 => (if t195 = true then ((spec_l8None.f).bind fun bt196 => (spec_l8Two.j0 k (!(bt185.1 == bt196.1) || (!(bt185.2.1 == bt196.2))) s0_0 bt193.2 bt185.1 bt185.2.1 bt189.1 bt189.2.1)) else (spec_l8Two.j0 k false s0_0 bt193.2 bt185.1 bt185.2.1 bt189.1 bt189.2.1))) else (spec_l8Two.j0 k false s0_0 bt193.2 bt185.1 bt185.2.1 bt189.1 bt189.2.1))))) = some (r1, r2, r3, r4, r5) := h
  clear h
  replace H := Option.bind_eq_some_iff.mp H
  obtain ⟨⟨t185, t186, t187⟩, A20, H⟩ := H
  replace H : ((spec_l8Wild.f k s0_0 t187).bind fun bt189 => ((spec_l1Rd_pick.f k s0_0 bt189.2.2 3).bind fun bt193 => (if bt193.1 = 0 then ((spec_RangeOk.f t185 t186).bind fun t195 => (if t195 = true then ((spec_l8None.f).bind fun bt196 => (spec_l8Two.j0 k (!(t185 == bt196.1) || (!(t186 == bt196.2))) s0_0 bt193.2 t185 t186 bt189.1 bt189.2.1)) else (spec_l8Two.j0 k false s0_0 bt193.2 t185 t186 bt189.1 bt189.2.1))) else (spec_l8Two.j0 k false s0_0 bt193.2 t185 t186 bt189.1 bt189.2.1)))) = some (r1, r2, r3, r4, r5) := H
  have A2 := Aside0.mk A20
  clear A20
  replace H := Option.bind_eq_some_iff.mp H
  obtain ⟨⟨t189, t190, t191⟩, A30, H⟩ := H
  replace H : ((spec_l1Rd_pick.f k s0_0 t191 3).bind fun bt193 => (if bt193.1 = 0 then ((spec_RangeOk.f t185 t186).bind fun t195 => (if t195 = true then ((spec_l8None.f).bind fun bt196 => (spec_l8Two.j0 k (!(t185 == bt196.1) || (!(t186 == bt196.2))) s0_0 bt193.2 t185 t186 t189 t190)) else (spec_l8Two.j0 k false s0_0 bt193.2 t185 t186 t189 t190))) else (spec_l8Two.j0 k false s0_0 bt193.2 t185 t186 t189 t190))) = some (r1, r2, r3, r4, r5) := H
  have A3 := Aside0.mk A30
  clear A30
  have HC4 := Aside0.mk H
  clear H
  go_enter Try.func96, Try.ntmps96
  go_upto_region 3 with (first | ((with_reducible refine gate_dst (N := 2) rfl ?_); refine sqx 2 #[.int .i64 0, .int .i64 0] 27 ?_; intro gb183 hg w5 hbox hb; have n0_ := Aside0.mk (IsS98.below (by repeat (first | (with_reducible first | exact HI0.out | apply IsS98.alloc | apply IsS98.drewN | apply IsS98.drew | apply IsS98.set_1) | exact HI0.out)) hb); have n1_ := Aside0.mk (KeepBut.trans (by repeat (first | (with_reducible first | exact HK.out | apply KeepBut.set_ | apply keep_drewN | apply keep_drew | apply keep_alloc) | exact HK.out)) (KeepBut.of_below hb g none) (.inl rfl)); have n2_ := Aside0.mk (below_step (by repeat (first | (with_reducible first | exact HB.out | apply below_alloc | apply pw_below_drewN | apply below_drew1 | refine below_set ?_ (IsS98.ge HI0.out)) | exact HB.out)) hb); have n3_ := Aside0.mk (hbox); have n4_ := Aside0.mk ((by rw [hg]; exact (keep_size (w := w) (g := g) (row := none) (by repeat (first | (with_reducible first | exact HK.out | apply KeepBut.set_ | apply keep_drewN | apply keep_drew | apply keep_alloc) | exact HK.out))) : w.heap.size ≤ gb183)); have n5_ := Aside0.mk ((Nat.le_trans HW0.out (by rw [hg]; exact (keep_size (w := w) (g := g) (row := none) (by repeat (first | (with_reducible first | exact HK.out | apply KeepBut.set_ | apply keep_drewN | apply keep_drew | apply keep_alloc) | exact HK.out))) : w.heap.size ≤ gb183) : w0.heap.size ≤ gb183)); have n6_ := Aside0.mk ((by rw [hg]; exact Nat.ne_of_lt (IsS98.lt (show IsS98 w0 _ g s0_0 s0_1 from by repeat (first | (with_reducible first | exact HI0.out | apply IsS98.alloc | apply IsS98.drewN | apply IsS98.drew | apply IsS98.set_1) | exact HI0.out))) : g ≠ gb183)); have n7_ := Aside0.mk ((by rw [hg]; exact Nat.ne_of_gt (IsS98.lt (show IsS98 w0 _ g s0_0 s0_1 from by repeat (first | (with_reducible first | exact HI0.out | apply IsS98.alloc | apply IsS98.drewN | apply IsS98.drew | apply IsS98.set_1) | exact HI0.out))) : gb183 ≠ g)); clear HI0; clear HK; clear HB; have HI0 := n0_; have HK := n1_; have HB := n2_; have BK183 := n3_; have GW183 := n4_; have GE183 := n5_; have NB0_183 := n6_; have NB183_0 := n7_; clear n0_ n1_ n2_ n3_ n4_ n5_ n6_ n7_; clear hb hbox hg) | ((with_reducible refine gate_dst (N := 3) rfl ?_); refine sqx 3 #[.int .i64 0, .int .i64 0] 27 ?_; intro gb184 hg w6 hbox hb; have n0_ := Aside0.mk (IsS98.below (by repeat (first | (with_reducible first | exact HI0.out | apply IsS98.alloc | apply IsS98.drewN | apply IsS98.drew | apply IsS98.set_1 | refine IsS98.far ?_ NB0_183.out _) | exact HI0.out)) hb); have n1_ := sqb BK183 hb; have n2_ := Aside0.mk (KeepBut.trans (by repeat (first | (with_reducible first | exact HK.out | apply KeepBut.set_ | apply keep_drewN | apply keep_drew | apply keep_alloc | refine keep_far ?_ GW183.out _) | exact HK.out)) (KeepBut.of_below hb g none) (.inl rfl)); have n3_ := Aside0.mk (below_step (by repeat (first | (with_reducible first | exact HB.out | apply below_alloc | apply pw_below_drewN | apply below_drew1 | refine below_set ?_ (IsS98.ge HI0.out) | refine below_set ?_ GE183.out) | exact HB.out)) hb); have n4_ := Aside0.mk (hbox); have n5_ := Aside0.mk ((by rw [hg]; exact (keep_size (w := w) (g := g) (row := none) (by repeat (first | (with_reducible first | exact HK.out | apply KeepBut.set_ | apply keep_drewN | apply keep_drew | apply keep_alloc | refine keep_far ?_ GW183.out _) | exact HK.out))) : w.heap.size ≤ gb184)); have n6_ := Aside0.mk ((Nat.le_trans HW0.out (by rw [hg]; exact (keep_size (w := w) (g := g) (row := none) (by repeat (first | (with_reducible first | exact HK.out | apply KeepBut.set_ | apply keep_drewN | apply keep_drew | apply keep_alloc | refine keep_far ?_ GW183.out _) | exact HK.out))) : w.heap.size ≤ gb184) : w0.heap.size ≤ gb184)); have n7_ := sqn BK183 hg; have n8_ := sqm BK183 hg; have n9_ := Aside0.mk ((by rw [hg]; exact Nat.ne_of_lt (IsS98.lt (show IsS98 w0 _ g s0_0 s0_1 from by repeat (first | (with_reducible first | exact HI0.out | apply IsS98.alloc | apply IsS98.drewN | apply IsS98.drew | apply IsS98.set_1 | refine IsS98.far ?_ NB0_183.out _) | exact HI0.out))) : g ≠ gb184)); have n10_ := Aside0.mk ((by rw [hg]; exact Nat.ne_of_gt (IsS98.lt (show IsS98 w0 _ g s0_0 s0_1 from by repeat (first | (with_reducible first | exact HI0.out | apply IsS98.alloc | apply IsS98.drewN | apply IsS98.drew | apply IsS98.set_1 | refine IsS98.far ?_ NB0_183.out _) | exact HI0.out))) : gb184 ≠ g)); clear HI0; clear BK183; clear HK; clear HB; have HI0 := n0_; have BK183 := n1_; have HK := n2_; have HB := n3_; have BK184 := n4_; have GW184 := n5_; have GE184 := n6_; have NB183_184 := n7_; have NB184_183 := n8_; have NB0_184 := n9_; have NB184_0 := n10_; clear n0_ n1_ n2_ n3_ n4_ n5_ n6_ n7_ n8_ n9_ n10_; clear hb hbox hg) | ((with_reducible refine gate_callee (f := 115) rfl ?_); refine sqL (some 7) Try.func115 #[.pointer (some ⟨g, 0, none⟩)] ?_; (with_reducible refine (spec_l8Wild.calls k g s0_0 s0_1 t185 t186 t187 w0 _ ?side1 ?side2 A2.out).mono ?_); (case side1 => repeat (first | (with_reducible first | exact HI0.out | apply IsS98.alloc | apply IsS98.drewN | apply IsS98.drew | apply IsS98.set_1 | refine IsS98.far ?_ NB0_183.out _ | refine IsS98.far ?_ NB0_184.out _) | exact HI0.out)); (case side2 => repeat (first | (with_reducible first | exact HB.out | apply below_alloc | apply pw_below_drewN | apply below_drew1 | refine below_set ?_ (IsS98.ge HI0.out) | refine below_set ?_ GE183.out | refine below_set ?_ GE184.out) | exact HB.out)); rintro e w7 ⟨rfl, hi, hb, hk⟩; refine ⟨_, rfl, ?_⟩; have n0_ := Aside0.mk (KeepBut.blk hk (g' := gb183) (o := .cells #[.int .i64 0, .int .i64 0] 27 (0, 0)) (by refine sqt ?_; exact BK183.out) NB183_0.out (by simp)); have n1_ := Aside0.mk (KeepBut.blk hk (g' := gb184) (o := .cells #[.int .i64 0, .int .i64 0] 27 (0, 0)) (by refine sqt ?_; exact BK184.out) NB184_0.out (by simp)); have n2_ := Aside0.mk (KeepBut.trans (by repeat (first | (with_reducible first | exact HK.out | apply KeepBut.set_ | apply keep_drewN | apply keep_drew | apply keep_alloc | refine keep_far ?_ GW183.out _ | refine keep_far ?_ GW184.out _) | exact HK.out)) hk (.inl rfl)); have n3_ := Aside0.mk (hb); have n4_ := Aside0.mk (hi); clear BK183; clear BK184; clear HK; clear HB; clear HI0; have BK183 := n0_; have BK184 := n1_; have HK := n2_; have HB := n3_; have HI0 := n4_; clear n0_ n1_ n2_ n3_ n4_; (try clear hb); (try clear hb2); (try clear hk); (try clear hi)) | ((with_reducible refine gate_dst (N := 4) rfl ?_); refine sqx 4 #[.int .i64 0, .int .i64 0] 27 ?_; intro gb188 hg w8 hbox hb; have n0_ := Aside0.mk (IsS98.below (by repeat (first | (with_reducible first | exact HI0.out | apply IsS98.alloc | apply IsS98.drewN | apply IsS98.drew | apply IsS98.set_1 | refine IsS98.far ?_ NB0_183.out _ | refine IsS98.far ?_ NB0_184.out _) | exact HI0.out)) hb); have n1_ := sqb BK183 hb; have n2_ := sqb BK184 hb; have n3_ := Aside0.mk (KeepBut.trans (by repeat (first | (with_reducible first | exact HK.out | apply KeepBut.set_ | apply keep_drewN | apply keep_drew | apply keep_alloc | refine keep_far ?_ GW183.out _ | refine keep_far ?_ GW184.out _) | exact HK.out)) (KeepBut.of_below hb g none) (.inl rfl)); have n4_ := Aside0.mk (below_step (by repeat (first | (with_reducible first | exact HB.out | apply below_alloc | apply pw_below_drewN | apply below_drew1 | refine below_set ?_ (IsS98.ge HI0.out) | refine below_set ?_ GE183.out | refine below_set ?_ GE184.out) | exact HB.out)) hb); have n5_ := Aside0.mk (hbox); have n6_ := Aside0.mk ((by rw [hg]; exact (keep_size (w := w) (g := g) (row := none) (by repeat (first | (with_reducible first | exact HK.out | apply KeepBut.set_ | apply keep_drewN | apply keep_drew | apply keep_alloc | refine keep_far ?_ GW183.out _ | refine keep_far ?_ GW184.out _) | exact HK.out))) : w.heap.size ≤ gb188)); have n7_ := Aside0.mk ((Nat.le_trans HW0.out (by rw [hg]; exact (keep_size (w := w) (g := g) (row := none) (by repeat (first | (with_reducible first | exact HK.out | apply KeepBut.set_ | apply keep_drewN | apply keep_drew | apply keep_alloc | refine keep_far ?_ GW183.out _ | refine keep_far ?_ GW184.out _) | exact HK.out))) : w.heap.size ≤ gb188) : w0.heap.size ≤ gb188)); have n8_ := sqn BK183 hg; have n9_ := sqm BK183 hg; have n10_ := sqn BK184 hg; have n11_ := sqm BK184 hg; have n12_ := Aside0.mk ((by rw [hg]; exact Nat.ne_of_lt (IsS98.lt (show IsS98 w0 _ g s0_0 t187 from by repeat (first | (with_reducible first | exact HI0.out | apply IsS98.alloc | apply IsS98.drewN | apply IsS98.drew | apply IsS98.set_1 | refine IsS98.far ?_ NB0_183.out _ | refine IsS98.far ?_ NB0_184.out _) | exact HI0.out))) : g ≠ gb188)); have n13_ := Aside0.mk ((by rw [hg]; exact Nat.ne_of_gt (IsS98.lt (show IsS98 w0 _ g s0_0 t187 from by repeat (first | (with_reducible first | exact HI0.out | apply IsS98.alloc | apply IsS98.drewN | apply IsS98.drew | apply IsS98.set_1 | refine IsS98.far ?_ NB0_183.out _ | refine IsS98.far ?_ NB0_184.out _) | exact HI0.out))) : gb188 ≠ g)); clear HI0; clear BK183; clear BK184; clear HK; clear HB; have HI0 := n0_; have BK183 := n1_; have BK184 := n2_; have HK := n3_; have HB := n4_; have BK188 := n5_; have GW188 := n6_; have GE188 := n7_; have NB183_188 := n8_; have NB188_183 := n9_; have NB184_188 := n10_; have NB188_184 := n11_; have NB0_188 := n12_; have NB188_0 := n13_; clear n0_ n1_ n2_ n3_ n4_ n5_ n6_ n7_ n8_ n9_ n10_ n11_ n12_ n13_; clear hb hbox hg; have hnb9 := NB188_183.out; have hnc9 := NB183_188.out; have hnb10 := NB188_184.out; have hnc10 := NB184_188.out; have hnb11 := NB188_0.out; have hnc11 := NB0_188.out; obtain ⟨hcz12_0, hcz12_1, hfz12_0, hfz12_1⟩ := sqc2 BK188) | ((with_reducible refine gate_callee (f := 115) rfl ?_); refine sqL (some 9) Try.func115 #[.pointer (some ⟨g, 0, none⟩)] ?_; (with_reducible refine (spec_l8Wild.calls k g s0_0 t187 t189 t190 t191 w0 _ ?side1 ?side2 A3.out).mono ?_); (case side1 => repeat (first | (with_reducible first | exact HI0.out | apply IsS98.alloc | apply IsS98.drewN | apply IsS98.drew | apply IsS98.set_1 | refine IsS98.far ?_ NB0_183.out _ | refine IsS98.far ?_ NB0_184.out _ | refine IsS98.far ?_ NB0_188.out _) | exact HI0.out)); (case side2 => repeat (first | (with_reducible first | exact HB.out | apply below_alloc | apply pw_below_drewN | apply below_drew1 | refine below_set ?_ (IsS98.ge HI0.out) | refine below_set ?_ GE183.out | refine below_set ?_ GE184.out | refine below_set ?_ GE188.out) | exact HB.out)); rintro e w13 ⟨rfl, hi, hb, hk⟩; refine ⟨_, rfl, ?_⟩; have n0_ := Aside0.mk (KeepBut.blk hk (g' := gb183) (o := .cells #[.int .i64 0, .int .i64 0] 27 (0, 0)) (by refine sqt ?_; refine blk_far ?_ NB183_188.out _; refine sqt ?_; refine blk_far ?_ NB183_188.out _; refine sqt ?_; exact BK183.out) NB183_0.out (by simp)); have n1_ := Aside0.mk (KeepBut.blk hk (g' := gb184) (o := .cells #[.int .i64 0, .int .i64 0] 27 (0, 0)) (by refine sqt ?_; refine blk_far ?_ NB184_188.out _; refine sqt ?_; refine blk_far ?_ NB184_188.out _; refine sqt ?_; exact BK184.out) NB184_0.out (by simp)); have n2_ := Aside0.mk (KeepBut.blk hk (g' := gb188) (o := .cells #[.int .i64 t185, .int .i64 t186] 27 (0, 0)) (by refine sqt ?_; refine blk_put (cs := #[.int .i64 t185, .int .i64 0]) ?_ 1 _ rfl; refine sqt ?_; refine blk_put (cs := #[.int .i64 0, .int .i64 0]) ?_ 0 _ rfl; refine sqt ?_; exact BK188.out) NB188_0.out (by simp)); have n3_ := Aside0.mk (KeepBut.trans (by repeat (first | (with_reducible first | exact HK.out | apply KeepBut.set_ | apply keep_drewN | apply keep_drew | apply keep_alloc | refine keep_far ?_ GW183.out _ | refine keep_far ?_ GW184.out _ | refine keep_far ?_ GW188.out _) | exact HK.out)) hk (.inl rfl)); have n4_ := Aside0.mk (hb); have n5_ := Aside0.mk (hi); clear BK183; clear BK184; clear BK188; clear HK; clear HB; clear HI0; have BK183 := n0_; have BK184 := n1_; have BK188 := n2_; have HK := n3_; have HB := n4_; have HI0 := n5_; clear n0_ n1_ n2_ n3_ n4_ n5_; (try clear hb); (try clear hb2); (try clear hk); (try clear hi)) | ((with_reducible refine gate_dst (N := 5) rfl ?_); refine sqx 5 #[.int .i64 0, .int .i64 0] 27 ?_; intro gb192 hg w14 hbox hb; have n0_ := Aside0.mk (IsS98.below (by repeat (first | (with_reducible first | exact HI0.out | apply IsS98.alloc | apply IsS98.drewN | apply IsS98.drew | apply IsS98.set_1 | refine IsS98.far ?_ NB0_183.out _ | refine IsS98.far ?_ NB0_184.out _ | refine IsS98.far ?_ NB0_188.out _) | exact HI0.out)) hb); have n1_ := sqb BK183 hb; have n2_ := sqb BK184 hb; have n3_ := sqb BK188 hb; have n4_ := Aside0.mk (KeepBut.trans (by repeat (first | (with_reducible first | exact HK.out | apply KeepBut.set_ | apply keep_drewN | apply keep_drew | apply keep_alloc | refine keep_far ?_ GW183.out _ | refine keep_far ?_ GW184.out _ | refine keep_far ?_ GW188.out _) | exact HK.out)) (KeepBut.of_below hb g none) (.inl rfl)); have n5_ := Aside0.mk (below_step (by repeat (first | (with_reducible first | exact HB.out | apply below_alloc | apply pw_below_drewN | apply below_drew1 | refine below_set ?_ (IsS98.ge HI0.out) | refine below_set ?_ GE183.out | refine below_set ?_ GE184.out | refine below_set ?_ GE188.out) | exact HB.out)) hb); have n6_ := Aside0.mk (hbox); have n7_ := Aside0.mk ((by rw [hg]; exact (keep_size (w := w) (g := g) (row := none) (by repeat (first | (with_reducible first | exact HK.out | apply KeepBut.set_ | apply keep_drewN | apply keep_drew | apply keep_alloc | refine keep_far ?_ GW183.out _ | refine keep_far ?_ GW184.out _ | refine keep_far ?_ GW188.out _) | exact HK.out))) : w.heap.size ≤ gb192)); have n8_ := Aside0.mk ((Nat.le_trans HW0.out (by rw [hg]; exact (keep_size (w := w) (g := g) (row := none) (by repeat (first | (with_reducible first | exact HK.out | apply KeepBut.set_ | apply keep_drewN | apply keep_drew | apply keep_alloc | refine keep_far ?_ GW183.out _ | refine keep_far ?_ GW184.out _ | refine keep_far ?_ GW188.out _) | exact HK.out))) : w.heap.size ≤ gb192) : w0.heap.size ≤ gb192)); have n9_ := sqn BK183 hg; have n10_ := sqm BK183 hg; have n11_ := sqn BK184 hg; have n12_ := sqm BK184 hg; have n13_ := sqn BK188 hg; have n14_ := sqm BK188 hg; have n15_ := Aside0.mk ((by rw [hg]; exact Nat.ne_of_lt (IsS98.lt (show IsS98 w0 _ g s0_0 t191 from by repeat (first | (with_reducible first | exact HI0.out | apply IsS98.alloc | apply IsS98.drewN | apply IsS98.drew | apply IsS98.set_1 | refine IsS98.far ?_ NB0_183.out _ | refine IsS98.far ?_ NB0_184.out _ | refine IsS98.far ?_ NB0_188.out _) | exact HI0.out))) : g ≠ gb192)); have n16_ := Aside0.mk ((by rw [hg]; exact Nat.ne_of_gt (IsS98.lt (show IsS98 w0 _ g s0_0 t191 from by repeat (first | (with_reducible first | exact HI0.out | apply IsS98.alloc | apply IsS98.drewN | apply IsS98.drew | apply IsS98.set_1 | refine IsS98.far ?_ NB0_183.out _ | refine IsS98.far ?_ NB0_184.out _ | refine IsS98.far ?_ NB0_188.out _) | exact HI0.out))) : gb192 ≠ g)); clear HI0; clear BK183; clear BK184; clear BK188; clear HK; clear HB; have HI0 := n0_; have BK183 := n1_; have BK184 := n2_; have BK188 := n3_; have HK := n4_; have HB := n5_; have BK192 := n6_; have GW192 := n7_; have GE192 := n8_; have NB183_192 := n9_; have NB192_183 := n10_; have NB184_192 := n11_; have NB192_184 := n12_; have NB188_192 := n13_; have NB192_188 := n14_; have NB0_192 := n15_; have NB192_0 := n16_; clear n0_ n1_ n2_ n3_ n4_ n5_ n6_ n7_ n8_ n9_ n10_ n11_ n12_ n13_ n14_ n15_ n16_; clear hb hbox hg; have hnb15 := NB192_183.out; have hnc15 := NB183_192.out; have hnb16 := NB192_184.out; have hnc16 := NB184_192.out; have hnb17 := NB192_188.out; have hnc17 := NB188_192.out; have hnb18 := NB192_0.out; have hnc18 := NB0_192.out; obtain ⟨hcz19_0, hcz19_1, hfz19_0, hfz19_1⟩ := sqc2 BK192))
  (try simp only [Act.put, List.setIfInBounds_toArray, List.set_cons_zero, List.set_cons_succ])
  go_cut [21] (fun v21 wc => ∃ (kq : Nat) (x21_3 : Bool) (x1001_3 : Int), v21 = .bool x21_3 ∧ Aside0 (spec_l8Two.j0 kq x21_3 s0_0 x1001_3 t185 t186 t189 t190 = some (r1, r2, r3, r4, r5)) ∧ Aside0 (kq ≤ k) ∧ Aside0 (wc.heap[gb183]? = some (.cells #[.int .i64 0, .int .i64 0] 27 (0, 0))) ∧ Aside0 (wc.heap[gb184]? = some (.cells #[.int .i64 0, .int .i64 0] 27 (0, 0))) ∧ Aside0 (wc.heap[gb188]? = some (.cells #[.int .i64 t185, .int .i64 t186] 27 (0, 0))) ∧ Aside0 (wc.heap[gb192]? = some (.cells #[.int .i64 t189, .int .i64 t190] 27 (0, 0))) ∧ Aside0 (IsS98 w0 wc g s0_0 x1001_3) ∧ Aside0 (KeepBut w wc g none) ∧ Aside0 (Below w0.heap.size w0 wc))
  case first =>
    have H := HC4.out
    clear HC4
    replace H := Option.bind_eq_some_iff.mp H
    obtain ⟨⟨t193, t194⟩, A200, H⟩ := H
    replace H : (if t193 = 0 then ((spec_RangeOk.f t185 t186).bind fun t195 => (if t195 = true then ((spec_l8None.f).bind fun bt196 => (spec_l8Two.j0 k (!(t185 == bt196.1) || (!(t186 == bt196.2))) s0_0 t194 t185 t186 t189 t190)) else (spec_l8Two.j0 k false s0_0 t194 t185 t186 t189 t190))) else (spec_l8Two.j0 k false s0_0 t194 t185 t186 t189 t190)) = some (r1, r2, r3, r4, r5) := H
    have A20 := Aside0.mk A200
    clear A200
    by_cases c21 : t193 = 0
    · rw [if_pos c21] at H
      have c21b0 : (t193 == 0) = true := beq_iff_eq.mpr c21
      have c21b1 : (t193 != 0) = false := bne_eq_false_iff_eq.mpr c21
      clear c21
      (first | rw [c21b0] | (simp only [i64_w, i32_w]; rw [c21b0]) | skip)
      replace H := Option.bind_eq_some_iff.mp H
      obtain ⟨t195, A220, H⟩ := H
      replace H : (if t195 = true then ((spec_l8None.f).bind fun bt196 => (spec_l8Two.j0 k (!(t185 == bt196.1) || (!(t186 == bt196.2))) s0_0 t194 t185 t186 t189 t190)) else (spec_l8Two.j0 k false s0_0 t194 t185 t186 t189 t190)) = some (r1, r2, r3, r4, r5) := H
      have A22 := Aside0.mk A220
      clear A220
      by_cases c23 : t195 = true
      · subst c23
        have H1 : ((spec_l8None.f).bind fun bt196 => (spec_l8Two.j0 k (!(t185 == bt196.1) || (!(t186 == bt196.2))) s0_0 t194 t185 t186 t189 t190)) = some (r1, r2, r3, r4, r5) := by rw [if_pos rfl] at H; exact H
        clear H
        have H := H1
        clear H1
        replace H := Option.bind_eq_some_iff.mp H
        obtain ⟨⟨t196, t197⟩, A240, H⟩ := H
        replace H : (spec_l8Two.j0 k (!(t185 == t196) || (!(t186 == t197))) s0_0 t194 t185 t186 t189 t190) = some (r1, r2, r3, r4, r5) := H
        have A24 := Aside0.mk A240
        clear A240
        have H' := Aside0.mk H
        clear H
        try go_wp2
        have n0_ : Aside0 (((w14.setCell ⟨gb192, 0, none⟩ (.int .i64 t189)).setCell ⟨gb192, 1, none⟩ (.int .i64 t190)).heap[gb183]? = some (.cells #[.int .i64 0, .int .i64 0] 27 (0, 0))) := ⟨by refine sqt ?_; refine blk_far ?_ NB183_192.out _; refine sqt ?_; refine blk_far ?_ NB183_192.out _; refine sqt ?_; exact BK183.out⟩
        have n1_ : Aside0 (((w14.setCell ⟨gb192, 0, none⟩ (.int .i64 t189)).setCell ⟨gb192, 1, none⟩ (.int .i64 t190)).heap[gb184]? = some (.cells #[.int .i64 0, .int .i64 0] 27 (0, 0))) := ⟨by refine sqt ?_; refine blk_far ?_ NB184_192.out _; refine sqt ?_; refine blk_far ?_ NB184_192.out _; refine sqt ?_; exact BK184.out⟩
        have n2_ : Aside0 (((w14.setCell ⟨gb192, 0, none⟩ (.int .i64 t189)).setCell ⟨gb192, 1, none⟩ (.int .i64 t190)).heap[gb188]? = some (.cells #[.int .i64 t185, .int .i64 t186] 27 (0, 0))) := ⟨by refine sqt ?_; refine blk_far ?_ NB188_192.out _; refine sqt ?_; refine blk_far ?_ NB188_192.out _; refine sqt ?_; exact BK188.out⟩
        have n3_ : Aside0 (((w14.setCell ⟨gb192, 0, none⟩ (.int .i64 t189)).setCell ⟨gb192, 1, none⟩ (.int .i64 t190)).heap[gb192]? = some (.cells #[.int .i64 t189, .int .i64 t190] 27 (0, 0))) := ⟨by refine sqt ?_; refine blk_put (cs := #[.int .i64 t189, .int .i64 0]) ?_ 1 _ rfl; refine sqt ?_; refine blk_put (cs := #[.int .i64 0, .int .i64 0]) ?_ 0 _ rfl; refine sqt ?_; exact BK192.out⟩
        have n4_ : Aside0 (IsS98 w0 ((w14.setCell ⟨gb192, 0, none⟩ (.int .i64 t189)).setCell ⟨gb192, 1, none⟩ (.int .i64 t190)) g s0_0 t191) := ⟨by repeat (first | (with_reducible first | exact HI0.out | apply IsS98.alloc | apply IsS98.drewN | apply IsS98.drew | apply IsS98.set_1 | refine IsS98.far ?_ NB0_183.out _ | refine IsS98.far ?_ NB0_184.out _ | refine IsS98.far ?_ NB0_188.out _ | refine IsS98.far ?_ NB0_192.out _) | exact HI0.out)⟩
        have n5_ : Aside0 (KeepBut w ((w14.setCell ⟨gb192, 0, none⟩ (.int .i64 t189)).setCell ⟨gb192, 1, none⟩ (.int .i64 t190)) g none) := ⟨by repeat (first | (with_reducible first | exact HK.out | apply KeepBut.set_ | apply keep_drewN | apply keep_drew | apply keep_alloc | refine keep_far ?_ GW183.out _ | refine keep_far ?_ GW184.out _ | refine keep_far ?_ GW188.out _ | refine keep_far ?_ GW192.out _) | exact HK.out)⟩
        have n6_ : Aside0 (Below w0.heap.size w0 ((w14.setCell ⟨gb192, 0, none⟩ (.int .i64 t189)).setCell ⟨gb192, 1, none⟩ (.int .i64 t190))) := ⟨by repeat (first | (with_reducible first | exact HB.out | apply below_alloc | apply pw_below_drewN | apply below_drew1 | refine below_set ?_ (IsS98.ge HI0.out) | refine below_set ?_ GE183.out | refine below_set ?_ GE184.out | refine below_set ?_ GE188.out | refine below_set ?_ GE192.out) | exact HB.out)⟩
        (try clear BK183)
        (try clear BK184)
        (try clear BK188)
        (try clear BK192)
        (try clear HI0)
        (try clear HK)
        (try clear HB)
        generalize ((w14.setCell ⟨gb192, 0, none⟩ (.int .i64 t189)).setCell ⟨gb192, 1, none⟩ (.int .i64 t190)) = w25 at n0_ n1_ n2_ n3_ n4_ n5_ n6_ ⊢
        have BK183 := n0_
        have BK184 := n1_
        have BK188 := n2_
        have BK192 := n3_
        have HI0 := n4_
        have HK := n5_
        have HB := n6_
        clear n0_ n1_ n2_ n3_ n4_ n5_ n6_
        replace BK183 := Aside0.mk (blk_drew BK183.out)
        replace BK184 := Aside0.mk (blk_drew BK184.out)
        replace BK188 := Aside0.mk (blk_drew BK188.out)
        replace BK192 := Aside0.mk (blk_drew BK192.out)
        replace HI0 := Aside0.mk (IsS98.drew HI0.out)
        replace HK := Aside0.mk (keep_drew HK.out)
        replace HB := Aside0.mk (below_drew1 HB.out)
        refine start_ (n := 12) (S := fun w' => w'.cell? ⟨gb188, 0, none⟩ = some (.int .i64 t185) ∧ w'.cell? ⟨gb188, 1, none⟩ = some (.int .i64 t186)) (ds := []) #[false, false, false, false, false, false, false, false, false, false, false, false] (by kernel_rfl) rfl rfl ⟨(blk_cell BK188.out 0).trans rfl, (blk_cell BK188.out 1).trans rfl⟩ (fun hHeld => ?_); refine with_tabW spec_l8Two.tab3 spec_l8Two.bits3 (fun HT_ HW_ => ?_)
        generalize w25.drew = w26 at BK183 BK184 BK188 BK192 HI0 HK HB hHeld ⊢
        refine sqp HT_ 0 10 ?_
        refine sqo HT_ 1 11 (fun K hK => ?_)
        refine sqG Try.func88 #[.pointer (some ⟨g, 0, none⟩), .int .i64 3] ?_
        with_reducible refine (spec_l1Rd_pick.calls k g s0_0 t191 3 t193 t194 w0 _ ?side1 ?side2 A20.out).mono ?_
        (case side1 => repeat (first | (with_reducible first | exact HI0.out | apply IsS98.alloc | apply IsS98.drewN | apply IsS98.drew | apply IsS98.set_1 | refine IsS98.far ?_ NB0_183.out _ | refine IsS98.far ?_ NB0_184.out _ | refine IsS98.far ?_ NB0_188.out _ | refine IsS98.far ?_ NB0_192.out _) | exact HI0.out))
        (case side2 => repeat (first | (with_reducible first | exact HB.out | apply below_alloc | apply pw_below_drewN | apply below_drew1 | refine below_set ?_ (IsS98.ge HI0.out) | refine below_set ?_ GE183.out | refine below_set ?_ GE184.out | refine below_set ?_ GE188.out | refine below_set ?_ GE192.out) | exact HB.out))
        rintro e w27 ⟨rfl, hi, hb, hk⟩
        refine ⟨_, rfl, ?_⟩
        have n0_ := Aside0.mk (KeepBut.blk hk (g' := gb183) (o := .cells #[.int .i64 0, .int .i64 0] 27 (0, 0)) (by refine sqt ?_; exact BK183.out) NB183_0.out (by simp))
        have n1_ := Aside0.mk (KeepBut.blk hk (g' := gb184) (o := .cells #[.int .i64 0, .int .i64 0] 27 (0, 0)) (by refine sqt ?_; exact BK184.out) NB184_0.out (by simp))
        have n2_ := Aside0.mk (KeepBut.blk hk (g' := gb188) (o := .cells #[.int .i64 t185, .int .i64 t186] 27 (0, 0)) (by refine sqt ?_; exact BK188.out) NB188_0.out (by simp))
        have n3_ := Aside0.mk (KeepBut.blk hk (g' := gb192) (o := .cells #[.int .i64 t189, .int .i64 t190] 27 (0, 0)) (by refine sqt ?_; exact BK192.out) NB192_0.out (by simp))
        have n4_ := Aside0.mk (KeepBut.trans (by repeat (first | (with_reducible first | exact HK.out | apply KeepBut.set_ | apply keep_drewN | apply keep_drew | apply keep_alloc | refine keep_far ?_ GW183.out _ | refine keep_far ?_ GW184.out _ | refine keep_far ?_ GW188.out _ | refine keep_far ?_ GW192.out _) | exact HK.out)) hk (.inl rfl))
        have n5_ := Aside0.mk (hb)
        have n6_ := Aside0.mk (hi)
        clear BK183
        clear BK184
        clear BK188
        clear BK192
        clear HK
        clear HB
        clear HI0
        have BK183 := n0_
        have BK184 := n1_
        have BK188 := n2_
        have BK192 := n3_
        have HK := n4_
        have HB := n5_
        have HI0 := n6_
        clear n0_ n1_ n2_ n3_ n4_ n5_ n6_
        (try clear hb)
        (try clear hb2)
        (try clear hk)
        (try clear hi)
        refine hK.out _ _ sqz (fun hHeld => ?_)
        clear hK K
        refine sqnm ?_
        refine sqp HT_ 2 12 ?_
        refine sqp HT_ 3 13 ?_
        refine sqw HT_ HW_ 4 14 hHeld ?_
        refine sqo HT_ 5 15 (fun K hK => ?_)
        refine sqG Try.func40 #[.agg #[.int .i64 t185, .int .i64 t186]] ?_
        with_reducible refine (spec_RangeOk.calls t185 t186 true _ A22.out).mono ?_
        rintro e w28 ⟨rfl, hb⟩
        refine ⟨_, rfl, ?_⟩
        have n0_ := Aside0.mk (IsS98.below (by repeat (first | (with_reducible first | exact HI0.out | apply IsS98.alloc | apply IsS98.drewN | apply IsS98.drew | apply IsS98.set_1 | refine IsS98.far ?_ NB0_183.out _ | refine IsS98.far ?_ NB0_184.out _ | refine IsS98.far ?_ NB0_188.out _ | refine IsS98.far ?_ NB0_192.out _) | exact HI0.out)) hb)
        have n1_ := sqb BK183 hb
        have n2_ := sqb BK184 hb
        have n3_ := sqb BK188 hb
        have n4_ := sqb BK192 hb
        have n5_ := Aside0.mk (KeepBut.trans (by repeat (first | (with_reducible first | exact HK.out | apply KeepBut.set_ | apply keep_drewN | apply keep_drew | apply keep_alloc | refine keep_far ?_ GW183.out _ | refine keep_far ?_ GW184.out _ | refine keep_far ?_ GW188.out _ | refine keep_far ?_ GW192.out _) | exact HK.out)) (KeepBut.of_below hb g none) (.inl rfl))
        have n6_ := Aside0.mk (below_step (by repeat (first | (with_reducible first | exact HB.out | apply below_alloc | apply pw_below_drewN | apply below_drew1 | refine below_set ?_ (IsS98.ge HI0.out) | refine below_set ?_ GE183.out | refine below_set ?_ GE184.out | refine below_set ?_ GE188.out | refine below_set ?_ GE192.out) | exact HB.out)) hb)
        clear HI0
        clear BK183
        clear BK184
        clear BK188
        clear BK192
        clear HK
        clear HB
        have HI0 := n0_
        have BK183 := n1_
        have BK184 := n2_
        have BK188 := n3_
        have BK192 := n4_
        have HK := n5_
        have HB := n6_
        clear n0_ n1_ n2_ n3_ n4_ n5_ n6_
        (try clear hb)
        refine hK.out _ _ sqz (fun hHeld => ?_)
        clear hK K
        refine sqnm ?_
        refine sqp HT_ 6 16 ?_
        refine sqp HT_ 7 17 ?_
        refine sqw HT_ HW_ 8 18 hHeld ?_
        refine sqo HT_ 9 19 (fun K hK => ?_)
        refine sqG Try.func68 #[] ?_
        with_reducible refine (spec_l8None.calls  t196 t197 _ A24.out).mono ?_
        rintro e w29 ⟨rfl, hb⟩
        refine ⟨_, rfl, ?_⟩
        have n0_ := Aside0.mk (IsS98.below (by repeat (first | (with_reducible first | exact HI0.out | apply IsS98.alloc | apply IsS98.drewN | apply IsS98.drew | apply IsS98.set_1 | refine IsS98.far ?_ NB0_183.out _ | refine IsS98.far ?_ NB0_184.out _ | refine IsS98.far ?_ NB0_188.out _ | refine IsS98.far ?_ NB0_192.out _) | exact HI0.out)) hb)
        have n1_ := sqb BK183 hb
        have n2_ := sqb BK184 hb
        have n3_ := sqb BK188 hb
        have n4_ := sqb BK192 hb
        have n5_ := Aside0.mk (KeepBut.trans (by repeat (first | (with_reducible first | exact HK.out | apply KeepBut.set_ | apply keep_drewN | apply keep_drew | apply keep_alloc | refine keep_far ?_ GW183.out _ | refine keep_far ?_ GW184.out _ | refine keep_far ?_ GW188.out _ | refine keep_far ?_ GW192.out _) | exact HK.out)) (KeepBut.of_below hb g none) (.inl rfl))
        have n6_ := Aside0.mk (below_step (by repeat (first | (with_reducible first | exact HB.out | apply below_alloc | apply pw_below_drewN | apply below_drew1 | refine below_set ?_ (IsS98.ge HI0.out) | refine below_set ?_ GE183.out | refine below_set ?_ GE184.out | refine below_set ?_ GE188.out | refine below_set ?_ GE192.out) | exact HB.out)) hb)
        clear HI0
        clear BK183
        clear BK184
        clear BK188
        clear BK192
        clear HK
        clear HB
        have HI0 := n0_
        have BK183 := n1_
        have BK184 := n2_
        have BK188 := n3_
        have BK192 := n4_
        have HK := n5_
        have HB := n6_
        clear n0_ n1_ n2_ n3_ n4_ n5_ n6_
        (try clear hb)
        refine hK.out _ _ sqz (fun hHeld => ?_)
        clear hK K
        refine sqnm ?_
        refine sqp HT_ 10 20 ?_
        refine sqp HT_ 11 21 ?_
        refine done_ (done_of HT_.out (by kernel_rfl)) ?_
        try go_wp2
        go_meet
        case rel => exact ⟨_, ((!(t185 == t196) || (!(t186 == t197)))), (t194), (by first | rfl | (simp; done) | (simp [*]; done)), H', ⟨by first | omega | exact Nat.le_refl _⟩, sqk BK183, sqk BK184, sqk BK188, sqk BK192, ⟨by repeat (first | (with_reducible first | exact HI0.out | apply IsS98.alloc | apply IsS98.drewN | apply IsS98.drew | apply IsS98.set_1 | refine IsS98.far ?_ NB0_183.out _ | refine IsS98.far ?_ NB0_184.out _ | refine IsS98.far ?_ NB0_188.out _ | refine IsS98.far ?_ NB0_192.out _) | exact HI0.out)⟩, ⟨by repeat (first | (with_reducible first | exact HK.out | apply KeepBut.set_ | apply keep_drewN | apply keep_drew | apply keep_alloc | refine keep_far ?_ GW183.out _ | refine keep_far ?_ GW184.out _ | refine keep_far ?_ GW188.out _ | refine keep_far ?_ GW192.out _) | exact HK.out)⟩, ⟨by repeat (first | (with_reducible first | exact HB.out | apply below_alloc | apply pw_below_drewN | apply below_drew1 | refine below_set ?_ (IsS98.ge HI0.out) | refine below_set ?_ GE183.out | refine below_set ?_ GE184.out | refine below_set ?_ GE188.out | refine below_set ?_ GE192.out) | exact HB.out)⟩⟩
      · replace c23 := Bool.eq_false_iff.mpr c23
        subst c23
        have H1 : (spec_l8Two.j0 k false s0_0 t194 t185 t186 t189 t190) = some (r1, r2, r3, r4, r5) := by rw [if_neg (show ¬ (false = true) by decide)] at H; exact H
        clear H
        have H := H1
        clear H1
        have H' := Aside0.mk H
        clear H
        try go_wp2
        have n0_ : Aside0 (((w14.setCell ⟨gb192, 0, none⟩ (.int .i64 t189)).setCell ⟨gb192, 1, none⟩ (.int .i64 t190)).heap[gb183]? = some (.cells #[.int .i64 0, .int .i64 0] 27 (0, 0))) := ⟨by refine sqt ?_; refine blk_far ?_ NB183_192.out _; refine sqt ?_; refine blk_far ?_ NB183_192.out _; refine sqt ?_; exact BK183.out⟩
        have n1_ : Aside0 (((w14.setCell ⟨gb192, 0, none⟩ (.int .i64 t189)).setCell ⟨gb192, 1, none⟩ (.int .i64 t190)).heap[gb184]? = some (.cells #[.int .i64 0, .int .i64 0] 27 (0, 0))) := ⟨by refine sqt ?_; refine blk_far ?_ NB184_192.out _; refine sqt ?_; refine blk_far ?_ NB184_192.out _; refine sqt ?_; exact BK184.out⟩
        have n2_ : Aside0 (((w14.setCell ⟨gb192, 0, none⟩ (.int .i64 t189)).setCell ⟨gb192, 1, none⟩ (.int .i64 t190)).heap[gb188]? = some (.cells #[.int .i64 t185, .int .i64 t186] 27 (0, 0))) := ⟨by refine sqt ?_; refine blk_far ?_ NB188_192.out _; refine sqt ?_; refine blk_far ?_ NB188_192.out _; refine sqt ?_; exact BK188.out⟩
        have n3_ : Aside0 (((w14.setCell ⟨gb192, 0, none⟩ (.int .i64 t189)).setCell ⟨gb192, 1, none⟩ (.int .i64 t190)).heap[gb192]? = some (.cells #[.int .i64 t189, .int .i64 t190] 27 (0, 0))) := ⟨by refine sqt ?_; refine blk_put (cs := #[.int .i64 t189, .int .i64 0]) ?_ 1 _ rfl; refine sqt ?_; refine blk_put (cs := #[.int .i64 0, .int .i64 0]) ?_ 0 _ rfl; refine sqt ?_; exact BK192.out⟩
        have n4_ : Aside0 (IsS98 w0 ((w14.setCell ⟨gb192, 0, none⟩ (.int .i64 t189)).setCell ⟨gb192, 1, none⟩ (.int .i64 t190)) g s0_0 t191) := ⟨by repeat (first | (with_reducible first | exact HI0.out | apply IsS98.alloc | apply IsS98.drewN | apply IsS98.drew | apply IsS98.set_1 | refine IsS98.far ?_ NB0_183.out _ | refine IsS98.far ?_ NB0_184.out _ | refine IsS98.far ?_ NB0_188.out _ | refine IsS98.far ?_ NB0_192.out _) | exact HI0.out)⟩
        have n5_ : Aside0 (KeepBut w ((w14.setCell ⟨gb192, 0, none⟩ (.int .i64 t189)).setCell ⟨gb192, 1, none⟩ (.int .i64 t190)) g none) := ⟨by repeat (first | (with_reducible first | exact HK.out | apply KeepBut.set_ | apply keep_drewN | apply keep_drew | apply keep_alloc | refine keep_far ?_ GW183.out _ | refine keep_far ?_ GW184.out _ | refine keep_far ?_ GW188.out _ | refine keep_far ?_ GW192.out _) | exact HK.out)⟩
        have n6_ : Aside0 (Below w0.heap.size w0 ((w14.setCell ⟨gb192, 0, none⟩ (.int .i64 t189)).setCell ⟨gb192, 1, none⟩ (.int .i64 t190))) := ⟨by repeat (first | (with_reducible first | exact HB.out | apply below_alloc | apply pw_below_drewN | apply below_drew1 | refine below_set ?_ (IsS98.ge HI0.out) | refine below_set ?_ GE183.out | refine below_set ?_ GE184.out | refine below_set ?_ GE188.out | refine below_set ?_ GE192.out) | exact HB.out)⟩
        (try clear BK183)
        (try clear BK184)
        (try clear BK188)
        (try clear BK192)
        (try clear HI0)
        (try clear HK)
        (try clear HB)
        generalize ((w14.setCell ⟨gb192, 0, none⟩ (.int .i64 t189)).setCell ⟨gb192, 1, none⟩ (.int .i64 t190)) = w30 at n0_ n1_ n2_ n3_ n4_ n5_ n6_ ⊢
        have BK183 := n0_
        have BK184 := n1_
        have BK188 := n2_
        have BK192 := n3_
        have HI0 := n4_
        have HK := n5_
        have HB := n6_
        clear n0_ n1_ n2_ n3_ n4_ n5_ n6_
        replace BK183 := Aside0.mk (blk_drew BK183.out)
        replace BK184 := Aside0.mk (blk_drew BK184.out)
        replace BK188 := Aside0.mk (blk_drew BK188.out)
        replace BK192 := Aside0.mk (blk_drew BK192.out)
        replace HI0 := Aside0.mk (IsS98.drew HI0.out)
        replace HK := Aside0.mk (keep_drew HK.out)
        replace HB := Aside0.mk (below_drew1 HB.out)
        refine start_ (n := 12) (S := fun w' => w'.cell? ⟨gb188, 0, none⟩ = some (.int .i64 t185) ∧ w'.cell? ⟨gb188, 1, none⟩ = some (.int .i64 t186)) (ds := []) #[false, false, false, false, false, false, false, false, false, false, false, false] (by kernel_rfl) rfl rfl ⟨(blk_cell BK188.out 0).trans rfl, (blk_cell BK188.out 1).trans rfl⟩ (fun hHeld => ?_); refine with_tabW spec_l8Two.tab3 spec_l8Two.bits3 (fun HT_ HW_ => ?_)
        generalize w30.drew = w31 at BK183 BK184 BK188 BK192 HI0 HK HB hHeld ⊢
        refine sqp HT_ 0 10 ?_
        refine sqo HT_ 1 11 (fun K hK => ?_)
        refine sqG Try.func88 #[.pointer (some ⟨g, 0, none⟩), .int .i64 3] ?_
        with_reducible refine (spec_l1Rd_pick.calls k g s0_0 t191 3 t193 t194 w0 _ ?side1 ?side2 A20.out).mono ?_
        (case side1 => repeat (first | (with_reducible first | exact HI0.out | apply IsS98.alloc | apply IsS98.drewN | apply IsS98.drew | apply IsS98.set_1 | refine IsS98.far ?_ NB0_183.out _ | refine IsS98.far ?_ NB0_184.out _ | refine IsS98.far ?_ NB0_188.out _ | refine IsS98.far ?_ NB0_192.out _) | exact HI0.out))
        (case side2 => repeat (first | (with_reducible first | exact HB.out | apply below_alloc | apply pw_below_drewN | apply below_drew1 | refine below_set ?_ (IsS98.ge HI0.out) | refine below_set ?_ GE183.out | refine below_set ?_ GE184.out | refine below_set ?_ GE188.out | refine below_set ?_ GE192.out) | exact HB.out))
        rintro e w32 ⟨rfl, hi, hb, hk⟩
        refine ⟨_, rfl, ?_⟩
        have n0_ := Aside0.mk (KeepBut.blk hk (g' := gb183) (o := .cells #[.int .i64 0, .int .i64 0] 27 (0, 0)) (by refine sqt ?_; exact BK183.out) NB183_0.out (by simp))
        have n1_ := Aside0.mk (KeepBut.blk hk (g' := gb184) (o := .cells #[.int .i64 0, .int .i64 0] 27 (0, 0)) (by refine sqt ?_; exact BK184.out) NB184_0.out (by simp))
        have n2_ := Aside0.mk (KeepBut.blk hk (g' := gb188) (o := .cells #[.int .i64 t185, .int .i64 t186] 27 (0, 0)) (by refine sqt ?_; exact BK188.out) NB188_0.out (by simp))
        have n3_ := Aside0.mk (KeepBut.blk hk (g' := gb192) (o := .cells #[.int .i64 t189, .int .i64 t190] 27 (0, 0)) (by refine sqt ?_; exact BK192.out) NB192_0.out (by simp))
        have n4_ := Aside0.mk (KeepBut.trans (by repeat (first | (with_reducible first | exact HK.out | apply KeepBut.set_ | apply keep_drewN | apply keep_drew | apply keep_alloc | refine keep_far ?_ GW183.out _ | refine keep_far ?_ GW184.out _ | refine keep_far ?_ GW188.out _ | refine keep_far ?_ GW192.out _) | exact HK.out)) hk (.inl rfl))
        have n5_ := Aside0.mk (hb)
        have n6_ := Aside0.mk (hi)
        clear BK183
        clear BK184
        clear BK188
        clear BK192
        clear HK
        clear HB
        clear HI0
        have BK183 := n0_
        have BK184 := n1_
        have BK188 := n2_
        have BK192 := n3_
        have HK := n4_
        have HB := n5_
        have HI0 := n6_
        clear n0_ n1_ n2_ n3_ n4_ n5_ n6_
        (try clear hb)
        (try clear hb2)
        (try clear hk)
        (try clear hi)
        refine hK.out _ _ sqz (fun hHeld => ?_)
        clear hK K
        refine sqnm ?_
        refine sqp HT_ 2 12 ?_
        refine sqp HT_ 3 13 ?_
        refine sqw HT_ HW_ 4 14 hHeld ?_
        refine sqo HT_ 5 15 (fun K hK => ?_)
        refine sqG Try.func40 #[.agg #[.int .i64 t185, .int .i64 t186]] ?_
        with_reducible refine (spec_RangeOk.calls t185 t186 false _ A22.out).mono ?_
        rintro e w33 ⟨rfl, hb⟩
        refine ⟨_, rfl, ?_⟩
        have n0_ := Aside0.mk (IsS98.below (by repeat (first | (with_reducible first | exact HI0.out | apply IsS98.alloc | apply IsS98.drewN | apply IsS98.drew | apply IsS98.set_1 | refine IsS98.far ?_ NB0_183.out _ | refine IsS98.far ?_ NB0_184.out _ | refine IsS98.far ?_ NB0_188.out _ | refine IsS98.far ?_ NB0_192.out _) | exact HI0.out)) hb)
        have n1_ := sqb BK183 hb
        have n2_ := sqb BK184 hb
        have n3_ := sqb BK188 hb
        have n4_ := sqb BK192 hb
        have n5_ := Aside0.mk (KeepBut.trans (by repeat (first | (with_reducible first | exact HK.out | apply KeepBut.set_ | apply keep_drewN | apply keep_drew | apply keep_alloc | refine keep_far ?_ GW183.out _ | refine keep_far ?_ GW184.out _ | refine keep_far ?_ GW188.out _ | refine keep_far ?_ GW192.out _) | exact HK.out)) (KeepBut.of_below hb g none) (.inl rfl))
        have n6_ := Aside0.mk (below_step (by repeat (first | (with_reducible first | exact HB.out | apply below_alloc | apply pw_below_drewN | apply below_drew1 | refine below_set ?_ (IsS98.ge HI0.out) | refine below_set ?_ GE183.out | refine below_set ?_ GE184.out | refine below_set ?_ GE188.out | refine below_set ?_ GE192.out) | exact HB.out)) hb)
        clear HI0
        clear BK183
        clear BK184
        clear BK188
        clear BK192
        clear HK
        clear HB
        have HI0 := n0_
        have BK183 := n1_
        have BK184 := n2_
        have BK188 := n3_
        have BK192 := n4_
        have HK := n5_
        have HB := n6_
        clear n0_ n1_ n2_ n3_ n4_ n5_ n6_
        (try clear hb)
        refine hK.out _ _ sqz (fun hHeld => ?_)
        clear hK K
        refine sqnm ?_
        refine sqp HT_ 6 16 ?_
        refine sqp HT_ 7 17 ?_
        refine sqpu HT_ 8 18 ?_
        refine sqpu HT_ 9 19 ?_
        refine sqpu HT_ 10 20 ?_
        refine sqp HT_ 11 21 ?_
        refine done_ (done_of HT_.out (by kernel_rfl)) ?_
        try go_wp2
        go_meet
        case rel => exact ⟨_, (false), (t194), (by first | rfl | (simp; done) | (simp [*]; done)), H', ⟨by first | omega | exact Nat.le_refl _⟩, sqk BK183, sqk BK184, sqk BK188, sqk BK192, ⟨by repeat (first | (with_reducible first | exact HI0.out | apply IsS98.alloc | apply IsS98.drewN | apply IsS98.drew | apply IsS98.set_1 | refine IsS98.far ?_ NB0_183.out _ | refine IsS98.far ?_ NB0_184.out _ | refine IsS98.far ?_ NB0_188.out _ | refine IsS98.far ?_ NB0_192.out _) | exact HI0.out)⟩, ⟨by repeat (first | (with_reducible first | exact HK.out | apply KeepBut.set_ | apply keep_drewN | apply keep_drew | apply keep_alloc | refine keep_far ?_ GW183.out _ | refine keep_far ?_ GW184.out _ | refine keep_far ?_ GW188.out _ | refine keep_far ?_ GW192.out _) | exact HK.out)⟩, ⟨by repeat (first | (with_reducible first | exact HB.out | apply below_alloc | apply pw_below_drewN | apply below_drew1 | refine below_set ?_ (IsS98.ge HI0.out) | refine below_set ?_ GE183.out | refine below_set ?_ GE184.out | refine below_set ?_ GE188.out | refine below_set ?_ GE192.out) | exact HB.out)⟩⟩
    · rw [if_neg c21] at H
      have c21b0 : (t193 == 0) = false := beq_eq_false_iff_ne.mpr c21
      have c21b1 : (t193 != 0) = true := bne_iff_ne.mpr c21
      (first | rw [c21b0] | (simp only [i64_w, i32_w]; rw [c21b0]) | skip)
      have H' := Aside0.mk H
      clear H
      try go_wp2
      have n0_ : Aside0 (((w14.setCell ⟨gb192, 0, none⟩ (.int .i64 t189)).setCell ⟨gb192, 1, none⟩ (.int .i64 t190)).heap[gb183]? = some (.cells #[.int .i64 0, .int .i64 0] 27 (0, 0))) := ⟨by refine sqt ?_; refine blk_far ?_ NB183_192.out _; refine sqt ?_; refine blk_far ?_ NB183_192.out _; refine sqt ?_; exact BK183.out⟩
      have n1_ : Aside0 (((w14.setCell ⟨gb192, 0, none⟩ (.int .i64 t189)).setCell ⟨gb192, 1, none⟩ (.int .i64 t190)).heap[gb184]? = some (.cells #[.int .i64 0, .int .i64 0] 27 (0, 0))) := ⟨by refine sqt ?_; refine blk_far ?_ NB184_192.out _; refine sqt ?_; refine blk_far ?_ NB184_192.out _; refine sqt ?_; exact BK184.out⟩
      have n2_ : Aside0 (((w14.setCell ⟨gb192, 0, none⟩ (.int .i64 t189)).setCell ⟨gb192, 1, none⟩ (.int .i64 t190)).heap[gb188]? = some (.cells #[.int .i64 t185, .int .i64 t186] 27 (0, 0))) := ⟨by refine sqt ?_; refine blk_far ?_ NB188_192.out _; refine sqt ?_; refine blk_far ?_ NB188_192.out _; refine sqt ?_; exact BK188.out⟩
      have n3_ : Aside0 (((w14.setCell ⟨gb192, 0, none⟩ (.int .i64 t189)).setCell ⟨gb192, 1, none⟩ (.int .i64 t190)).heap[gb192]? = some (.cells #[.int .i64 t189, .int .i64 t190] 27 (0, 0))) := ⟨by refine sqt ?_; refine blk_put (cs := #[.int .i64 t189, .int .i64 0]) ?_ 1 _ rfl; refine sqt ?_; refine blk_put (cs := #[.int .i64 0, .int .i64 0]) ?_ 0 _ rfl; refine sqt ?_; exact BK192.out⟩
      have n4_ : Aside0 (IsS98 w0 ((w14.setCell ⟨gb192, 0, none⟩ (.int .i64 t189)).setCell ⟨gb192, 1, none⟩ (.int .i64 t190)) g s0_0 t191) := ⟨by repeat (first | (with_reducible first | exact HI0.out | apply IsS98.alloc | apply IsS98.drewN | apply IsS98.drew | apply IsS98.set_1 | refine IsS98.far ?_ NB0_183.out _ | refine IsS98.far ?_ NB0_184.out _ | refine IsS98.far ?_ NB0_188.out _ | refine IsS98.far ?_ NB0_192.out _) | exact HI0.out)⟩
      have n5_ : Aside0 (KeepBut w ((w14.setCell ⟨gb192, 0, none⟩ (.int .i64 t189)).setCell ⟨gb192, 1, none⟩ (.int .i64 t190)) g none) := ⟨by repeat (first | (with_reducible first | exact HK.out | apply KeepBut.set_ | apply keep_drewN | apply keep_drew | apply keep_alloc | refine keep_far ?_ GW183.out _ | refine keep_far ?_ GW184.out _ | refine keep_far ?_ GW188.out _ | refine keep_far ?_ GW192.out _) | exact HK.out)⟩
      have n6_ : Aside0 (Below w0.heap.size w0 ((w14.setCell ⟨gb192, 0, none⟩ (.int .i64 t189)).setCell ⟨gb192, 1, none⟩ (.int .i64 t190))) := ⟨by repeat (first | (with_reducible first | exact HB.out | apply below_alloc | apply pw_below_drewN | apply below_drew1 | refine below_set ?_ (IsS98.ge HI0.out) | refine below_set ?_ GE183.out | refine below_set ?_ GE184.out | refine below_set ?_ GE188.out | refine below_set ?_ GE192.out) | exact HB.out)⟩
      (try clear BK183)
      (try clear BK184)
      (try clear BK188)
      (try clear BK192)
      (try clear HI0)
      (try clear HK)
      (try clear HB)
      generalize ((w14.setCell ⟨gb192, 0, none⟩ (.int .i64 t189)).setCell ⟨gb192, 1, none⟩ (.int .i64 t190)) = w34 at n0_ n1_ n2_ n3_ n4_ n5_ n6_ ⊢
      have BK183 := n0_
      have BK184 := n1_
      have BK188 := n2_
      have BK192 := n3_
      have HI0 := n4_
      have HK := n5_
      have HB := n6_
      clear n0_ n1_ n2_ n3_ n4_ n5_ n6_
      replace BK183 := Aside0.mk (blk_drew BK183.out)
      replace BK184 := Aside0.mk (blk_drew BK184.out)
      replace BK188 := Aside0.mk (blk_drew BK188.out)
      replace BK192 := Aside0.mk (blk_drew BK192.out)
      replace HI0 := Aside0.mk (IsS98.drew HI0.out)
      replace HK := Aside0.mk (keep_drew HK.out)
      replace HB := Aside0.mk (below_drew1 HB.out)
      refine start_ (n := 12) (S := fun w' => True) (ds := []) #[false, false, false, false, false, false, false, false, false, false, false, false] (by kernel_rfl) rfl rfl trivial (fun hHeld => ?_); refine with_tabW spec_l8Two.tab3 spec_l8Two.bits3 (fun HT_ HW_ => ?_)
      generalize w34.drew = w35 at BK183 BK184 BK188 BK192 HI0 HK HB hHeld ⊢
      refine sqp HT_ 0 10 ?_
      refine sqo HT_ 1 11 (fun K hK => ?_)
      refine sqG Try.func88 #[.pointer (some ⟨g, 0, none⟩), .int .i64 3] ?_
      with_reducible refine (spec_l1Rd_pick.calls k g s0_0 t191 3 t193 t194 w0 _ ?side1 ?side2 A20.out).mono ?_
      (case side1 => repeat (first | (with_reducible first | exact HI0.out | apply IsS98.alloc | apply IsS98.drewN | apply IsS98.drew | apply IsS98.set_1 | refine IsS98.far ?_ NB0_183.out _ | refine IsS98.far ?_ NB0_184.out _ | refine IsS98.far ?_ NB0_188.out _ | refine IsS98.far ?_ NB0_192.out _) | exact HI0.out))
      (case side2 => repeat (first | (with_reducible first | exact HB.out | apply below_alloc | apply pw_below_drewN | apply below_drew1 | refine below_set ?_ (IsS98.ge HI0.out) | refine below_set ?_ GE183.out | refine below_set ?_ GE184.out | refine below_set ?_ GE188.out | refine below_set ?_ GE192.out) | exact HB.out))
      rintro e w36 ⟨rfl, hi, hb, hk⟩
      refine ⟨_, rfl, ?_⟩
      have n0_ := Aside0.mk (KeepBut.blk hk (g' := gb183) (o := .cells #[.int .i64 0, .int .i64 0] 27 (0, 0)) (by refine sqt ?_; exact BK183.out) NB183_0.out (by simp))
      have n1_ := Aside0.mk (KeepBut.blk hk (g' := gb184) (o := .cells #[.int .i64 0, .int .i64 0] 27 (0, 0)) (by refine sqt ?_; exact BK184.out) NB184_0.out (by simp))
      have n2_ := Aside0.mk (KeepBut.blk hk (g' := gb188) (o := .cells #[.int .i64 t185, .int .i64 t186] 27 (0, 0)) (by refine sqt ?_; exact BK188.out) NB188_0.out (by simp))
      have n3_ := Aside0.mk (KeepBut.blk hk (g' := gb192) (o := .cells #[.int .i64 t189, .int .i64 t190] 27 (0, 0)) (by refine sqt ?_; exact BK192.out) NB192_0.out (by simp))
      have n4_ := Aside0.mk (KeepBut.trans (by repeat (first | (with_reducible first | exact HK.out | apply KeepBut.set_ | apply keep_drewN | apply keep_drew | apply keep_alloc | refine keep_far ?_ GW183.out _ | refine keep_far ?_ GW184.out _ | refine keep_far ?_ GW188.out _ | refine keep_far ?_ GW192.out _) | exact HK.out)) hk (.inl rfl))
      have n5_ := Aside0.mk (hb)
      have n6_ := Aside0.mk (hi)
      clear BK183
      clear BK184
      clear BK188
      clear BK192
      clear HK
      clear HB
      clear HI0
      have BK183 := n0_
      have BK184 := n1_
      have BK188 := n2_
      have BK192 := n3_
      have HK := n4_
      have HB := n5_
      have HI0 := n6_
      clear n0_ n1_ n2_ n3_ n4_ n5_ n6_
      (try clear hb)
      (try clear hb2)
      (try clear hk)
      (try clear hi)
      refine hK.out _ _ trivial (fun hHeld => ?_)
      clear hK K
      refine sqnm ?_
      refine sqp HT_ 2 12 ?_
      refine sqp HT_ 3 13 ?_
      refine sqpu HT_ 4 14 ?_
      refine sqpu HT_ 5 15 ?_
      refine sqp HT_ 6 16 ?_
      refine sqp HT_ 7 17 ?_
      refine sqpu HT_ 8 18 ?_
      refine sqpu HT_ 9 19 ?_
      refine sqpu HT_ 10 20 ?_
      refine sqp HT_ 11 21 ?_
      refine done_ (done_of HT_.out (by kernel_rfl)) ?_
      try go_wp2
      go_meet
      case rel => exact ⟨_, (false), (t194), (by first | rfl | (simp; done) | (simp [*]; done)), H', ⟨by first | omega | exact Nat.le_refl _⟩, sqk BK183, sqk BK184, sqk BK188, sqk BK192, ⟨by repeat (first | (with_reducible first | exact HI0.out | apply IsS98.alloc | apply IsS98.drewN | apply IsS98.drew | apply IsS98.set_1 | refine IsS98.far ?_ NB0_183.out _ | refine IsS98.far ?_ NB0_184.out _ | refine IsS98.far ?_ NB0_188.out _ | refine IsS98.far ?_ NB0_192.out _) | exact HI0.out)⟩, ⟨by repeat (first | (with_reducible first | exact HK.out | apply KeepBut.set_ | apply keep_drewN | apply keep_drew | apply keep_alloc | refine keep_far ?_ GW183.out _ | refine keep_far ?_ GW184.out _ | refine keep_far ?_ GW188.out _ | refine keep_far ?_ GW192.out _) | exact HK.out)⟩, ⟨by repeat (first | (with_reducible first | exact HB.out | apply below_alloc | apply pw_below_drewN | apply below_drew1 | refine below_set ?_ (IsS98.ge HI0.out) | refine below_set ?_ GE183.out | refine below_set ?_ GE184.out | refine below_set ?_ GE188.out | refine below_set ?_ GE192.out) | exact HB.out)⟩⟩
  case rest =>
    clear HC4
    obtain ⟨kq, x21_3, x1001_3, rfl, HA, HJ3, BK183, BK184, BK188, BK192, HI0, HK, HB⟩ := hcut
    cases kq with
    | zero => exact absurd HA.out (by simp [spec_l8Two.j0])
    | succ kj3 =>
      have H := HA.out
      clear HA
      simp only [spec_l8Two.j0] at H
      by_cases c37 : x21_3 = true
      · subst c37
        have H1 : ((spec_l1Rd_pick.f kj3 s0_0 x1001_3 9).bind fun bt198 => ((spec_l1Rd_pick.f kj3 s0_0 bt198.2 9).bind fun bt200 => ((spec_l8Cut.f (wrap64 ((wrap64 (t185 + bt198.1)) - 4)) (wrap64 ((wrap64 (t186 + bt200.1)) - 4))).bind fun bt202 => (some (t185, t186, bt202.1, bt202.2, bt200.2))))) = some (r1, r2, r3, r4, r5) := by rw [if_pos rfl] at H; exact H
        clear H
        have H := H1
        clear H1
        replace H := Option.bind_eq_some_iff.mp H
        obtain ⟨⟨t198, t199⟩, A380, H⟩ := H
        replace H : ((spec_l1Rd_pick.f kj3 s0_0 t199 9).bind fun bt200 => ((spec_l8Cut.f (wrap64 ((wrap64 (t185 + t198)) - 4)) (wrap64 ((wrap64 (t186 + bt200.1)) - 4))).bind fun bt202 => (some (t185, t186, bt202.1, bt202.2, bt200.2)))) = some (r1, r2, r3, r4, r5) := H
        have A38 := Aside0.mk A380
        clear A380
        replace H := Option.bind_eq_some_iff.mp H
        obtain ⟨⟨t200, t201⟩, A390, H⟩ := H
        replace H : ((spec_l8Cut.f (wrap64 ((wrap64 (t185 + t198)) - 4)) (wrap64 ((wrap64 (t186 + t200)) - 4))).bind fun bt202 => (some (t185, t186, bt202.1, bt202.2, t201))) = some (r1, r2, r3, r4, r5) := H
        have A39 := Aside0.mk A390
        clear A390
        replace H := Option.bind_eq_some_iff.mp H
        obtain ⟨⟨t202, t203⟩, A400, H⟩ := H
        replace H : (some (t185, t186, t202, t203, t201)) = some (r1, r2, r3, r4, r5) := H
        have A40 := Aside0.mk A400
        clear A400
        simp only [Option.some.injEq, Prod.mk.injEq] at H
        obtain ⟨rfl, rfl, rfl, rfl, rfl⟩ := H
        try go_wp2
        replace BK183 := Aside0.mk (blk_drew BK183.out)
        replace BK184 := Aside0.mk (blk_drew BK184.out)
        replace BK188 := Aside0.mk (blk_drew BK188.out)
        replace BK192 := Aside0.mk (blk_drew BK192.out)
        replace HI0 := Aside0.mk (IsS98.drew HI0.out)
        replace HK := Aside0.mk (keep_drew HK.out)
        replace HB := Aside0.mk (below_drew1 HB.out)
        refine start_ (n := 14) (S := fun w' => w'.cell? ⟨gb188, 0, none⟩ = some (.int .i64 t185) ∧ w'.cell? ⟨gb188, 1, none⟩ = some (.int .i64 t186)) (ds := []) #[false, false, false, false, false, false, false, false, false, false, false, false, false, false] (by kernel_rfl) rfl rfl ⟨(blk_cell BK188.out 0).trans rfl, (blk_cell BK188.out 1).trans rfl⟩ (fun hHeld => ?_); refine with_tabW spec_l8Two.tab4 spec_l8Two.bits4 (fun HT_ HW_ => ?_)
        generalize wc.drew = w41 at BK183 BK184 BK188 BK192 HI0 HK HB hHeld ⊢
        refine sqp HT_ 0 22 ?_
        refine sqp HT_ 2 24 ?_
        refine sqp HT_ 6 28 ?_
        refine sqp HT_ 8 30 ?_
        refine sqw HT_ HW_ 1 23 hHeld ?_
        refine sqw HT_ HW_ 7 29 hHeld ?_
        refine sqo HT_ 3 25 (fun K hK => ?_)
        refine sqG Try.func88 #[.pointer (some ⟨g, 0, none⟩), .int .i64 9] ?_
        with_reducible refine (spec_l1Rd_pick.calls kj3 g s0_0 x1001_3 9 t198 t199 w0 _ ?side1 ?side2 A38.out).mono ?_
        (case side1 => repeat (first | (with_reducible first | exact HI0.out | apply IsS98.alloc | apply IsS98.drewN | apply IsS98.drew | apply IsS98.set_1 | refine IsS98.far ?_ NB0_183.out _ | refine IsS98.far ?_ NB0_184.out _ | refine IsS98.far ?_ NB0_188.out _ | refine IsS98.far ?_ NB0_192.out _) | exact HI0.out))
        (case side2 => repeat (first | (with_reducible first | exact HB.out | apply below_alloc | apply pw_below_drewN | apply below_drew1 | refine below_set ?_ (IsS98.ge HI0.out) | refine below_set ?_ GE183.out | refine below_set ?_ GE184.out | refine below_set ?_ GE188.out | refine below_set ?_ GE192.out) | exact HB.out))
        rintro e w42 ⟨rfl, hi, hb, hk⟩
        refine ⟨_, rfl, ?_⟩
        have n0_ := Aside0.mk (KeepBut.blk hk (g' := gb183) (o := .cells #[.int .i64 0, .int .i64 0] 27 (0, 0)) (by refine sqt ?_; exact BK183.out) NB183_0.out (by simp))
        have n1_ := Aside0.mk (KeepBut.blk hk (g' := gb184) (o := .cells #[.int .i64 0, .int .i64 0] 27 (0, 0)) (by refine sqt ?_; exact BK184.out) NB184_0.out (by simp))
        have n2_ := Aside0.mk (KeepBut.blk hk (g' := gb188) (o := .cells #[.int .i64 t185, .int .i64 t186] 27 (0, 0)) (by refine sqt ?_; exact BK188.out) NB188_0.out (by simp))
        have n3_ := Aside0.mk (KeepBut.blk hk (g' := gb192) (o := .cells #[.int .i64 t189, .int .i64 t190] 27 (0, 0)) (by refine sqt ?_; exact BK192.out) NB192_0.out (by simp))
        have n4_ := Aside0.mk (KeepBut.trans (by repeat (first | (with_reducible first | exact HK.out | apply KeepBut.set_ | apply keep_drewN | apply keep_drew | apply keep_alloc | refine keep_far ?_ GW183.out _ | refine keep_far ?_ GW184.out _ | refine keep_far ?_ GW188.out _ | refine keep_far ?_ GW192.out _) | exact HK.out)) hk (.inl rfl))
        have n5_ := Aside0.mk (hb)
        have n6_ := Aside0.mk (hi)
        clear BK183
        clear BK184
        clear BK188
        clear BK192
        clear HK
        clear HB
        clear HI0
        have BK183 := n0_
        have BK184 := n1_
        have BK188 := n2_
        have BK192 := n3_
        have HK := n4_
        have HB := n5_
        have HI0 := n6_
        clear n0_ n1_ n2_ n3_ n4_ n5_ n6_
        (try clear hb)
        (try clear hb2)
        (try clear hk)
        (try clear hi)
        refine hK.out _ _ sqz (fun hHeld => ?_)
        clear hK K
        refine sqnm ?_
        refine sqp HT_ 4 26 ?_
        refine sqp HT_ 5 27 ?_
        refine sqo HT_ 9 31 (fun K hK => ?_)
        refine sqG Try.func88 #[.pointer (some ⟨g, 0, none⟩), .int .i64 9] ?_
        with_reducible refine (spec_l1Rd_pick.calls kj3 g s0_0 t199 9 t200 t201 w0 _ ?side1 ?side2 A39.out).mono ?_
        (case side1 => repeat (first | (with_reducible first | exact HI0.out | apply IsS98.alloc | apply IsS98.drewN | apply IsS98.drew | apply IsS98.set_1 | refine IsS98.far ?_ NB0_183.out _ | refine IsS98.far ?_ NB0_184.out _ | refine IsS98.far ?_ NB0_188.out _ | refine IsS98.far ?_ NB0_192.out _) | exact HI0.out))
        (case side2 => repeat (first | (with_reducible first | exact HB.out | apply below_alloc | apply pw_below_drewN | apply below_drew1 | refine below_set ?_ (IsS98.ge HI0.out) | refine below_set ?_ GE183.out | refine below_set ?_ GE184.out | refine below_set ?_ GE188.out | refine below_set ?_ GE192.out) | exact HB.out))
        rintro e w43 ⟨rfl, hi, hb, hk⟩
        refine ⟨_, rfl, ?_⟩
        have n0_ := Aside0.mk (KeepBut.blk hk (g' := gb183) (o := .cells #[.int .i64 0, .int .i64 0] 27 (0, 0)) (by refine sqt ?_; exact BK183.out) NB183_0.out (by simp))
        have n1_ := Aside0.mk (KeepBut.blk hk (g' := gb184) (o := .cells #[.int .i64 0, .int .i64 0] 27 (0, 0)) (by refine sqt ?_; exact BK184.out) NB184_0.out (by simp))
        have n2_ := Aside0.mk (KeepBut.blk hk (g' := gb188) (o := .cells #[.int .i64 t185, .int .i64 t186] 27 (0, 0)) (by refine sqt ?_; exact BK188.out) NB188_0.out (by simp))
        have n3_ := Aside0.mk (KeepBut.blk hk (g' := gb192) (o := .cells #[.int .i64 t189, .int .i64 t190] 27 (0, 0)) (by refine sqt ?_; exact BK192.out) NB192_0.out (by simp))
        have n4_ := Aside0.mk (KeepBut.trans (by repeat (first | (with_reducible first | exact HK.out | apply KeepBut.set_ | apply keep_drewN | apply keep_drew | apply keep_alloc | refine keep_far ?_ GW183.out _ | refine keep_far ?_ GW184.out _ | refine keep_far ?_ GW188.out _ | refine keep_far ?_ GW192.out _) | exact HK.out)) hk (.inl rfl))
        have n5_ := Aside0.mk (hb)
        have n6_ := Aside0.mk (hi)
        clear BK183
        clear BK184
        clear BK188
        clear BK192
        clear HK
        clear HB
        clear HI0
        have BK183 := n0_
        have BK184 := n1_
        have BK188 := n2_
        have BK192 := n3_
        have HK := n4_
        have HB := n5_
        have HI0 := n6_
        clear n0_ n1_ n2_ n3_ n4_ n5_ n6_
        (try clear hb)
        (try clear hb2)
        (try clear hk)
        (try clear hi)
        refine hK.out _ _ sqz (fun hHeld => ?_)
        clear hK K
        refine sqnm ?_
        refine sqp HT_ 10 32 ?_
        refine sqp HT_ 11 33 ?_
        refine sqo HT_ 12 34 (fun K hK => ?_)
        refine sqG Try.func69 #[.int .i64 (wrap64 ((wrap64 (t185 + t198)) - 4)), .int .i64 (wrap64 ((wrap64 (t186 + t200)) - 4))] ?_
        with_reducible refine (spec_l8Cut.calls (wrap64 ((wrap64 (t185 + t198)) - 4)) (wrap64 ((wrap64 (t186 + t200)) - 4)) t202 t203 _ A40.out).mono ?_
        rintro e w44 ⟨rfl, hb⟩
        refine ⟨_, rfl, ?_⟩
        have n0_ := sqb BK183 hb
        have n1_ := sqb BK184 hb
        have n2_ := sqb BK188 hb
        have n3_ := sqb BK192 hb
        have n4_ := Aside0.mk (IsS98.below (by repeat (first | (with_reducible first | exact HI0.out | apply IsS98.alloc | apply IsS98.drewN | apply IsS98.drew | apply IsS98.set_1 | refine IsS98.far ?_ NB0_183.out _ | refine IsS98.far ?_ NB0_184.out _ | refine IsS98.far ?_ NB0_188.out _ | refine IsS98.far ?_ NB0_192.out _) | exact HI0.out)) hb)
        have n5_ := Aside0.mk (KeepBut.trans (by repeat (first | (with_reducible first | exact HK.out | apply KeepBut.set_ | apply keep_drewN | apply keep_drew | apply keep_alloc | refine keep_far ?_ GW183.out _ | refine keep_far ?_ GW184.out _ | refine keep_far ?_ GW188.out _ | refine keep_far ?_ GW192.out _) | exact HK.out)) (KeepBut.of_below hb g none) (.inl rfl))
        have n6_ := Aside0.mk (below_step (by repeat (first | (with_reducible first | exact HB.out | apply below_alloc | apply pw_below_drewN | apply below_drew1 | refine below_set ?_ (IsS98.ge HI0.out) | refine below_set ?_ GE183.out | refine below_set ?_ GE184.out | refine below_set ?_ GE188.out | refine below_set ?_ GE192.out) | exact HB.out)) hb)
        clear BK183
        clear BK184
        clear BK188
        clear BK192
        clear HI0
        clear HK
        clear HB
        have BK183 := n0_
        have BK184 := n1_
        have BK188 := n2_
        have BK192 := n3_
        have HI0 := n4_
        have HK := n5_
        have HB := n6_
        clear n0_ n1_ n2_ n3_ n4_ n5_ n6_
        (try clear hb)
        refine hK.out _ _ sqz (fun hHeld => ?_)
        clear hK K
        refine sqnm ?_
        refine one_ (i := 13) (N := none) #[true, true, true, true, true, true, true, true, true, true, true, true, true, true] rfl rfl (one_of HT_.out (by kernel_rfl)) (by decide) (fun K hK => ?_)
        have hs45 : w44.cell? ⟨gb192, 0, none⟩ = some (.int .i64 t189) := (blk_cell BK192.out 0).trans rfl
        have hfs45 := blk_frozen BK192.out 0
        have hns45_0 := NB183_192.out
        have hns45_1 := NB184_192.out
        have hns45_2 := NB188_192.out
        have hms45_0 := NB192_183.out
        have hms45_1 := NB192_184.out
        have hms45_2 := NB192_188.out
        have hs46 : w44.cell? ⟨gb192, 1, none⟩ = some (.int .i64 t190) := (blk_cell BK192.out 1).trans rfl
        have hfs46 := blk_frozen BK192.out 1
        have hns46_0 := NB183_192.out
        have hns46_1 := NB184_192.out
        have hns46_2 := NB188_192.out
        have hms46_0 := NB192_183.out
        have hms46_1 := NB192_184.out
        have hms46_2 := NB192_188.out
        refine skip_ (w1 := ?_) (by rfl) rfl ?_ ?_
        rotate_left
        · go_simp
          rfl
        refine hK.out _ _ ⟨((cell_far (p := ⟨gb192, _, none⟩) NB188_192.out _).trans (((cell_far (p := ⟨gb192, _, none⟩) NB188_192.out _).trans (hHeld.1)))), ((cell_far (p := ⟨gb192, _, none⟩) NB188_192.out _).trans (((cell_far (p := ⟨gb192, _, none⟩) NB188_192.out _).trans (hHeld.2))))⟩ (fun hHeld => ?_)
        clear hK K
        refine done_ (done_of HT_.out (by kernel_rfl)) ?_
        try go_wp2
        have n0_ : Aside0 (((w44.setCell ⟨gb192, 0, none⟩ (.int .i64 t202)).setCell ⟨gb192, 1, none⟩ (.int .i64 t203)).heap[gb183]? = some (.cells #[.int .i64 0, .int .i64 0] 27 (0, 0))) := ⟨by refine sqt ?_; refine blk_far ?_ NB183_192.out _; refine sqt ?_; refine blk_far ?_ NB183_192.out _; refine sqt ?_; exact BK183.out⟩
        have n1_ : Aside0 (((w44.setCell ⟨gb192, 0, none⟩ (.int .i64 t202)).setCell ⟨gb192, 1, none⟩ (.int .i64 t203)).heap[gb184]? = some (.cells #[.int .i64 0, .int .i64 0] 27 (0, 0))) := ⟨by refine sqt ?_; refine blk_far ?_ NB184_192.out _; refine sqt ?_; refine blk_far ?_ NB184_192.out _; refine sqt ?_; exact BK184.out⟩
        have n2_ : Aside0 (((w44.setCell ⟨gb192, 0, none⟩ (.int .i64 t202)).setCell ⟨gb192, 1, none⟩ (.int .i64 t203)).heap[gb188]? = some (.cells #[.int .i64 t185, .int .i64 t186] 27 (0, 0))) := ⟨by refine sqt ?_; refine blk_far ?_ NB188_192.out _; refine sqt ?_; refine blk_far ?_ NB188_192.out _; refine sqt ?_; exact BK188.out⟩
        have n3_ : Aside0 (((w44.setCell ⟨gb192, 0, none⟩ (.int .i64 t202)).setCell ⟨gb192, 1, none⟩ (.int .i64 t203)).heap[gb192]? = some (.cells #[.int .i64 t202, .int .i64 t203] 27 (0, 0))) := ⟨by refine sqt ?_; refine blk_put (cs := #[.int .i64 t202, .int .i64 t190]) ?_ 1 _ rfl; refine sqt ?_; refine blk_put (cs := #[.int .i64 t189, .int .i64 t190]) ?_ 0 _ rfl; refine sqt ?_; exact BK192.out⟩
        have n4_ : Aside0 (IsS98 w0 ((w44.setCell ⟨gb192, 0, none⟩ (.int .i64 t202)).setCell ⟨gb192, 1, none⟩ (.int .i64 t203)) g s0_0 t201) := ⟨by repeat (first | (with_reducible first | exact HI0.out | apply IsS98.alloc | apply IsS98.drewN | apply IsS98.drew | apply IsS98.set_1 | refine IsS98.far ?_ NB0_183.out _ | refine IsS98.far ?_ NB0_184.out _ | refine IsS98.far ?_ NB0_188.out _ | refine IsS98.far ?_ NB0_192.out _) | exact HI0.out)⟩
        have n5_ : Aside0 (KeepBut w ((w44.setCell ⟨gb192, 0, none⟩ (.int .i64 t202)).setCell ⟨gb192, 1, none⟩ (.int .i64 t203)) g none) := ⟨by repeat (first | (with_reducible first | exact HK.out | apply KeepBut.set_ | apply keep_drewN | apply keep_drew | apply keep_alloc | refine keep_far ?_ GW183.out _ | refine keep_far ?_ GW184.out _ | refine keep_far ?_ GW188.out _ | refine keep_far ?_ GW192.out _) | exact HK.out)⟩
        have n6_ : Aside0 (Below w0.heap.size w0 ((w44.setCell ⟨gb192, 0, none⟩ (.int .i64 t202)).setCell ⟨gb192, 1, none⟩ (.int .i64 t203))) := ⟨by repeat (first | (with_reducible first | exact HB.out | apply below_alloc | apply pw_below_drewN | apply below_drew1 | refine below_set ?_ (IsS98.ge HI0.out) | refine below_set ?_ GE183.out | refine below_set ?_ GE184.out | refine below_set ?_ GE188.out | refine below_set ?_ GE192.out) | exact HB.out)⟩
        (try clear BK183)
        (try clear BK184)
        (try clear BK188)
        (try clear BK192)
        (try clear HI0)
        (try clear HK)
        (try clear HB)
        generalize ((w44.setCell ⟨gb192, 0, none⟩ (.int .i64 t202)).setCell ⟨gb192, 1, none⟩ (.int .i64 t203)) = w47 at n0_ n1_ n2_ n3_ n4_ n5_ n6_ ⊢
        have BK183 := n0_
        have BK184 := n1_
        have BK188 := n2_
        have BK192 := n3_
        have HI0 := n4_
        have HK := n5_
        have HB := n6_
        clear n0_ n1_ n2_ n3_ n4_ n5_ n6_
        replace BK183 := Aside0.mk (blk_drew BK183.out)
        replace BK184 := Aside0.mk (blk_drew BK184.out)
        replace BK188 := Aside0.mk (blk_drew BK188.out)
        replace BK192 := Aside0.mk (blk_drew BK192.out)
        replace HI0 := Aside0.mk (IsS98.drew HI0.out)
        replace HK := Aside0.mk (keep_drew HK.out)
        replace HB := Aside0.mk (below_drew1 HB.out)
        refine start_ (n := 4) (S := fun w' => w'.cell? ⟨gb188, 0, none⟩ = some (.int .i64 t185) ∧ w'.cell? ⟨gb188, 1, none⟩ = some (.int .i64 t186) ∧ w'.cell? ⟨gb192, 0, none⟩ = some (.int .i64 t202) ∧ w'.cell? ⟨gb192, 1, none⟩ = some (.int .i64 t203)) (ds := []) #[false, false, false, false] (by kernel_rfl) rfl rfl ⟨(blk_cell BK188.out 0).trans rfl, (blk_cell BK188.out 1).trans rfl, (blk_cell BK192.out 0).trans rfl, (blk_cell BK192.out 1).trans rfl⟩ (fun hHeld => ?_)
        generalize w47.drew = w48 at BK183 BK184 BK188 BK192 HI0 HK HB hHeld ⊢
        refine take_ (i := 0) (N := some 35) (v := ?_) (a' := ?_) #[true, false, false, false] rfl rfl (by kernel_rfl) (fun _ _ _ h => h) (Or.inl ⟨by rfl, ?_⟩) hHeld ?_ ?_
        rotate_left
        · rintro w' ⟨s0, s1, s2, s3⟩
          go_simp
          with_reducible rfl
        rotate_left
        · simp only [Act.put, List.setIfInBounds_toArray, List.set_cons_zero, List.set_cons_succ, i64_w, i32_w]
          rfl
        refine take_ (i := 1) (N := some 36) (v := ?_) (a' := ?_) #[true, true, false, false] rfl rfl (by kernel_rfl) (fun _ _ _ h => h) (Or.inl ⟨by rfl, ?_⟩) hHeld ?_ ?_
        rotate_left
        · rintro w' ⟨s0, s1, s2, s3⟩
          go_simp
          with_reducible rfl
        rotate_left
        · simp only [Act.put, List.setIfInBounds_toArray, List.set_cons_zero, List.set_cons_succ, i64_w, i32_w]
          rfl
        refine one_ (i := 2) (N := none) #[true, true, true, false] rfl rfl (by kernel_rfl) (by decide) (fun K hK => ?_)
        have hs49 : w48.cell? ⟨gb183, 0, none⟩ = some (.int .i64 0) := (blk_cell BK183.out 0).trans rfl
        have hfs49 := blk_frozen BK183.out 0
        have hns49_1 := NB184_183.out
        have hns49_2 := NB188_183.out
        have hns49_3 := NB192_183.out
        have hms49_1 := NB183_184.out
        have hms49_2 := NB183_188.out
        have hms49_3 := NB183_192.out
        have hs50 : w48.cell? ⟨gb183, 1, none⟩ = some (.int .i64 0) := (blk_cell BK183.out 1).trans rfl
        have hfs50 := blk_frozen BK183.out 1
        have hns50_1 := NB184_183.out
        have hns50_2 := NB188_183.out
        have hns50_3 := NB192_183.out
        have hms50_1 := NB183_184.out
        have hms50_2 := NB183_188.out
        have hms50_3 := NB183_192.out
        refine skip_ (w1 := ?_) (by rfl) rfl ?_ ?_
        rotate_left
        · go_simp
          rfl
        refine hK.out _ _ ⟨((cell_far (p := ⟨gb183, _, none⟩) NB188_183.out _).trans (((cell_far (p := ⟨gb183, _, none⟩) NB188_183.out _).trans (hHeld.1)))), ((cell_far (p := ⟨gb183, _, none⟩) NB188_183.out _).trans (((cell_far (p := ⟨gb183, _, none⟩) NB188_183.out _).trans (hHeld.2.1)))), ((cell_far (p := ⟨gb183, _, none⟩) NB192_183.out _).trans (((cell_far (p := ⟨gb183, _, none⟩) NB192_183.out _).trans (hHeld.2.2.1)))), ((cell_far (p := ⟨gb183, _, none⟩) NB192_183.out _).trans (((cell_far (p := ⟨gb183, _, none⟩) NB192_183.out _).trans (hHeld.2.2.2))))⟩ (fun hHeld => ?_)
        clear hK K
        refine one_ (i := 3) (N := none) #[true, true, true, true] rfl rfl (by kernel_rfl) (by decide) (fun K hK => ?_)
        have hs51 : w48.cell? ⟨gb184, 0, none⟩ = some (.int .i64 0) := (blk_cell BK184.out 0).trans rfl
        have hfs51 := blk_frozen BK184.out 0
        have hns51_0 := NB183_184.out
        have hns51_2 := NB188_184.out
        have hns51_3 := NB192_184.out
        have hms51_0 := NB184_183.out
        have hms51_2 := NB184_188.out
        have hms51_3 := NB184_192.out
        have hs52 : w48.cell? ⟨gb184, 1, none⟩ = some (.int .i64 0) := (blk_cell BK184.out 1).trans rfl
        have hfs52 := blk_frozen BK184.out 1
        have hns52_0 := NB183_184.out
        have hns52_2 := NB188_184.out
        have hns52_3 := NB192_184.out
        have hms52_0 := NB184_183.out
        have hms52_2 := NB184_188.out
        have hms52_3 := NB184_192.out
        refine skip_ (w1 := ?_) (by rfl) rfl ?_ ?_
        rotate_left
        · go_simp
          rfl
        refine hK.out _ _ ⟨((cell_far (p := ⟨gb184, _, none⟩) NB188_184.out _).trans (((cell_far (p := ⟨gb184, _, none⟩) NB188_184.out _).trans (hHeld.1)))), ((cell_far (p := ⟨gb184, _, none⟩) NB188_184.out _).trans (((cell_far (p := ⟨gb184, _, none⟩) NB188_184.out _).trans (hHeld.2.1)))), ((cell_far (p := ⟨gb184, _, none⟩) NB192_184.out _).trans (((cell_far (p := ⟨gb184, _, none⟩) NB192_184.out _).trans (hHeld.2.2.1)))), ((cell_far (p := ⟨gb184, _, none⟩) NB192_184.out _).trans (((cell_far (p := ⟨gb184, _, none⟩) NB192_184.out _).trans (hHeld.2.2.2))))⟩ (fun hHeld => ?_)
        clear hK K
        refine done_ (by kernel_rfl) ?_
        try go_wp2
        refine bodyPost_ret (results_cc rfl _ _ gb183 gb184 27 27 #[.int .i64 t185, .int .i64 t186] #[.int .i64 t202, .int .i64 t203] (0, 0) (0, 0) _ _ rfl (by refine sqt ?_; refine blk_far ?_ NB183_184.out _; refine sqt ?_; refine blk_far ?_ NB183_184.out _; refine sqt ?_; refine blk_put (cs := #[.int .i64 t185, .int .i64 0]) ?_ 1 _ rfl; refine sqt ?_; refine blk_put (cs := #[.int .i64 0, .int .i64 0]) ?_ 0 _ rfl; refine sqt ?_; exact BK183.out) Try.underlying27 rfl (by kernel_rfl) rfl (by refine sqt ?_; refine blk_put (cs := #[.int .i64 t202, .int .i64 0]) ?_ 1 _ rfl; refine sqt ?_; refine blk_put (cs := #[.int .i64 0, .int .i64 0]) ?_ 0 _ rfl; refine sqt ?_; refine blk_far ?_ NB184_183.out _; refine sqt ?_; refine blk_far ?_ NB184_183.out _; refine sqt ?_; exact BK184.out) Try.underlying27 rfl (by kernel_rfl)) rfl ?_
        exact ⟨by first | rfl | (simp [errW_none, errW_some] <;> rfl) | (simp [*, errW_none, errW_some] <;> rfl), by repeat (first | (with_reducible first | exact HI0.out | apply IsS98.alloc | apply IsS98.drewN | apply IsS98.drew | apply IsS98.set_1 | refine IsS98.far ?_ NB0_183.out _ | refine IsS98.far ?_ NB0_184.out _ | refine IsS98.far ?_ NB0_188.out _ | refine IsS98.far ?_ NB0_192.out _) | exact HI0.out), by repeat (first | (with_reducible first | exact HB.out | apply below_alloc | apply pw_below_drewN | apply below_drew1 | refine below_set ?_ (IsS98.ge HI0.out) | refine below_set ?_ GE183.out | refine below_set ?_ GE184.out | refine below_set ?_ GE188.out | refine below_set ?_ GE192.out) | exact HB.out), by repeat (first | (with_reducible first | exact HK.out | apply KeepBut.set_ | apply keep_drewN | apply keep_drew | apply keep_alloc | refine keep_far ?_ GW183.out _ | refine keep_far ?_ GW184.out _ | refine keep_far ?_ GW188.out _ | refine keep_far ?_ GW192.out _) | exact HK.out)⟩
      · replace c37 := Bool.eq_false_iff.mpr c37
        subst c37
        have H1 : (some (t185, t186, t189, t190, x1001_3)) = some (r1, r2, r3, r4, r5) := by rw [if_neg (show ¬ (false = true) by decide)] at H; exact H
        clear H
        have H := H1
        clear H1
        simp only [Option.some.injEq, Prod.mk.injEq] at H
        obtain ⟨rfl, rfl, rfl, rfl, rfl⟩ := H
        try go_wp2
        replace BK183 := Aside0.mk (blk_drew BK183.out)
        replace BK184 := Aside0.mk (blk_drew BK184.out)
        replace BK188 := Aside0.mk (blk_drew BK188.out)
        replace BK192 := Aside0.mk (blk_drew BK192.out)
        replace HI0 := Aside0.mk (IsS98.drew HI0.out)
        replace HK := Aside0.mk (keep_drew HK.out)
        replace HB := Aside0.mk (below_drew1 HB.out)
        refine start_ (n := 4) (S := fun w' => w'.cell? ⟨gb188, 0, none⟩ = some (.int .i64 t185) ∧ w'.cell? ⟨gb188, 1, none⟩ = some (.int .i64 t186) ∧ w'.cell? ⟨gb192, 0, none⟩ = some (.int .i64 t189) ∧ w'.cell? ⟨gb192, 1, none⟩ = some (.int .i64 t190)) (ds := []) #[false, false, false, false] (by kernel_rfl) rfl rfl ⟨(blk_cell BK188.out 0).trans rfl, (blk_cell BK188.out 1).trans rfl, (blk_cell BK192.out 0).trans rfl, (blk_cell BK192.out 1).trans rfl⟩ (fun hHeld => ?_)
        generalize wc.drew = w53 at BK183 BK184 BK188 BK192 HI0 HK HB hHeld ⊢
        refine take_ (i := 0) (N := some 35) (v := ?_) (a' := ?_) #[true, false, false, false] rfl rfl (by kernel_rfl) (fun _ _ _ h => h) (Or.inl ⟨by rfl, ?_⟩) hHeld ?_ ?_
        rotate_left
        · rintro w' ⟨s0, s1, s2, s3⟩
          go_simp
          with_reducible rfl
        rotate_left
        · simp only [Act.put, List.setIfInBounds_toArray, List.set_cons_zero, List.set_cons_succ, i64_w, i32_w]
          rfl
        refine take_ (i := 1) (N := some 36) (v := ?_) (a' := ?_) #[true, true, false, false] rfl rfl (by kernel_rfl) (fun _ _ _ h => h) (Or.inl ⟨by rfl, ?_⟩) hHeld ?_ ?_
        rotate_left
        · rintro w' ⟨s0, s1, s2, s3⟩
          go_simp
          with_reducible rfl
        rotate_left
        · simp only [Act.put, List.setIfInBounds_toArray, List.set_cons_zero, List.set_cons_succ, i64_w, i32_w]
          rfl
        refine one_ (i := 2) (N := none) #[true, true, true, false] rfl rfl (by kernel_rfl) (by decide) (fun K hK => ?_)
        have hs54 : w53.cell? ⟨gb183, 0, none⟩ = some (.int .i64 0) := (blk_cell BK183.out 0).trans rfl
        have hfs54 := blk_frozen BK183.out 0
        have hns54_1 := NB184_183.out
        have hns54_2 := NB188_183.out
        have hns54_3 := NB192_183.out
        have hms54_1 := NB183_184.out
        have hms54_2 := NB183_188.out
        have hms54_3 := NB183_192.out
        have hs55 : w53.cell? ⟨gb183, 1, none⟩ = some (.int .i64 0) := (blk_cell BK183.out 1).trans rfl
        have hfs55 := blk_frozen BK183.out 1
        have hns55_1 := NB184_183.out
        have hns55_2 := NB188_183.out
        have hns55_3 := NB192_183.out
        have hms55_1 := NB183_184.out
        have hms55_2 := NB183_188.out
        have hms55_3 := NB183_192.out
        refine skip_ (w1 := ?_) (by rfl) rfl ?_ ?_
        rotate_left
        · go_simp
          rfl
        refine hK.out _ _ ⟨((cell_far (p := ⟨gb183, _, none⟩) NB188_183.out _).trans (((cell_far (p := ⟨gb183, _, none⟩) NB188_183.out _).trans (hHeld.1)))), ((cell_far (p := ⟨gb183, _, none⟩) NB188_183.out _).trans (((cell_far (p := ⟨gb183, _, none⟩) NB188_183.out _).trans (hHeld.2.1)))), ((cell_far (p := ⟨gb183, _, none⟩) NB192_183.out _).trans (((cell_far (p := ⟨gb183, _, none⟩) NB192_183.out _).trans (hHeld.2.2.1)))), ((cell_far (p := ⟨gb183, _, none⟩) NB192_183.out _).trans (((cell_far (p := ⟨gb183, _, none⟩) NB192_183.out _).trans (hHeld.2.2.2))))⟩ (fun hHeld => ?_)
        clear hK K
        refine one_ (i := 3) (N := none) #[true, true, true, true] rfl rfl (by kernel_rfl) (by decide) (fun K hK => ?_)
        have hs56 : w53.cell? ⟨gb184, 0, none⟩ = some (.int .i64 0) := (blk_cell BK184.out 0).trans rfl
        have hfs56 := blk_frozen BK184.out 0
        have hns56_0 := NB183_184.out
        have hns56_2 := NB188_184.out
        have hns56_3 := NB192_184.out
        have hms56_0 := NB184_183.out
        have hms56_2 := NB184_188.out
        have hms56_3 := NB184_192.out
        have hs57 : w53.cell? ⟨gb184, 1, none⟩ = some (.int .i64 0) := (blk_cell BK184.out 1).trans rfl
        have hfs57 := blk_frozen BK184.out 1
        have hns57_0 := NB183_184.out
        have hns57_2 := NB188_184.out
        have hns57_3 := NB192_184.out
        have hms57_0 := NB184_183.out
        have hms57_2 := NB184_188.out
        have hms57_3 := NB184_192.out
        refine skip_ (w1 := ?_) (by rfl) rfl ?_ ?_
        rotate_left
        · go_simp
          rfl
        refine hK.out _ _ ⟨((cell_far (p := ⟨gb184, _, none⟩) NB188_184.out _).trans (((cell_far (p := ⟨gb184, _, none⟩) NB188_184.out _).trans (hHeld.1)))), ((cell_far (p := ⟨gb184, _, none⟩) NB188_184.out _).trans (((cell_far (p := ⟨gb184, _, none⟩) NB188_184.out _).trans (hHeld.2.1)))), ((cell_far (p := ⟨gb184, _, none⟩) NB192_184.out _).trans (((cell_far (p := ⟨gb184, _, none⟩) NB192_184.out _).trans (hHeld.2.2.1)))), ((cell_far (p := ⟨gb184, _, none⟩) NB192_184.out _).trans (((cell_far (p := ⟨gb184, _, none⟩) NB192_184.out _).trans (hHeld.2.2.2))))⟩ (fun hHeld => ?_)
        clear hK K
        refine done_ (by kernel_rfl) ?_
        try go_wp2
        refine bodyPost_ret (results_cc rfl _ _ gb183 gb184 27 27 #[.int .i64 t185, .int .i64 t186] #[.int .i64 t189, .int .i64 t190] (0, 0) (0, 0) _ _ rfl (by refine sqt ?_; refine blk_far ?_ NB183_184.out _; refine sqt ?_; refine blk_far ?_ NB183_184.out _; refine sqt ?_; refine blk_put (cs := #[.int .i64 t185, .int .i64 0]) ?_ 1 _ rfl; refine sqt ?_; refine blk_put (cs := #[.int .i64 0, .int .i64 0]) ?_ 0 _ rfl; refine sqt ?_; exact BK183.out) Try.underlying27 rfl (by kernel_rfl) rfl (by refine sqt ?_; refine blk_put (cs := #[.int .i64 t189, .int .i64 0]) ?_ 1 _ rfl; refine sqt ?_; refine blk_put (cs := #[.int .i64 0, .int .i64 0]) ?_ 0 _ rfl; refine sqt ?_; refine blk_far ?_ NB184_183.out _; refine sqt ?_; refine blk_far ?_ NB184_183.out _; refine sqt ?_; exact BK184.out) Try.underlying27 rfl (by kernel_rfl)) rfl ?_
        exact ⟨by first | rfl | (simp [errW_none, errW_some] <;> rfl) | (simp [*, errW_none, errW_some] <;> rfl), by repeat (first | (with_reducible first | exact HI0.out | apply IsS98.alloc | apply IsS98.drewN | apply IsS98.drew | apply IsS98.set_1 | refine IsS98.far ?_ NB0_183.out _ | refine IsS98.far ?_ NB0_184.out _ | refine IsS98.far ?_ NB0_188.out _ | refine IsS98.far ?_ NB0_192.out _) | exact HI0.out), by repeat (first | (with_reducible first | exact HB.out | apply below_alloc | apply pw_below_drewN | apply below_drew1 | refine below_set ?_ (IsS98.ge HI0.out) | refine below_set ?_ GE183.out | refine below_set ?_ GE184.out | refine below_set ?_ GE188.out | refine below_set ?_ GE192.out) | exact HB.out), by repeat (first | (with_reducible first | exact HK.out | apply KeepBut.set_ | apply keep_drewN | apply keep_drew | apply keep_alloc | refine keep_far ?_ GW183.out _ | refine keep_far ?_ GW184.out _ | refine keep_far ?_ GW188.out _ | refine keep_far ?_ GW192.out _) | exact HK.out)⟩

end Go.Proofs.Ytmdcgkkkfncieaa.PFnRangeStill
