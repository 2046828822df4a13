/- Functions of the program as plain Lean functions, and that calls of them come to what these tell. Conditions: those in each law. -/
import Derived.Test.YtkekcenlleebeaaSq
import Derived.Test.YtkekcenlleebeaaDFnGapsJoin
import Derived.Test.YtkekcenlleebeaaQFnGapsJoinx0
import Derived.Test.YtkekcenlleebeaaQFnGapsJoinx1
import Derived.Test.YtkekcenlleebeaaQFnGapsJoinx2
import Derived.Test.YtkekcenlleebeaaQFnGapsJoinx3
import Derived.Test.YtkekcenlleebeaaQFnGapsJoinx9
namespace Go.Proofs.Ytkekcenlleebeaa.PFnGapsJoin
open Go.RowKit Go.Proofs.Ytkekcenlleebeaa.Sq Go.Proofs.YtkekcenlleebeaaW.PrintWords Go.Proofs.YtkekcenlleebeaaW.PrintLast Go.Proofs.YtkekcenlleebeaaW.PrintMore
attribute [local go_sem] max2_int min2_int max_two min_two max_three min_three max_four min_four   -- for this text's walks alone
set_option linter.unusedVariables false
set_option linter.unusedSimpArgs false

/-! ### spec_l11Pair: function 123 -/
theorem spec_l11Pair.mono_l : ∀ k, (∀ y0 y1 y2 y3 y4 y5 y6, LeO (spec_l11Pair.j1 k y0 y1 y2 y3 y4 y5 y6) (spec_l11Pair.j1 (k + 1) y0 y1 y2 y3 y4 y5 y6)) ∧ (∀ y0 y1 y2 y3 y4 y5 y6 y7, LeO (spec_l11Pair.j0 k y0 y1 y2 y3 y4 y5 y6 y7) (spec_l11Pair.j0 (k + 1) y0 y1 y2 y3 y4 y5 y6 y7))
  | 0 => ⟨fun _ _ _ _ _ _ _ r h => by simp [spec_l11Pair.j1] at h, fun _ _ _ _ _ _ _ _ r h => by simp [spec_l11Pair.j0] at h⟩
  | k + 1 => by
    obtain ⟨ih0, ih1⟩ := spec_l11Pair.mono_l k
    refine ⟨?_, ?_⟩
    · intro y0 y1 y2 y3 y4 y5 y6
      unfold spec_l11Pair.j1
      repeat' first
      | (with_reducible exact ih0 _ _ _ _ _ _ _)
      | (with_reducible exact ih1 _ _ _ _ _ _ _ _)
      | (with_reducible exact spec_GapsTop.mono _ _)
      | (with_reducible exact spec_l11Copy.mono _ _ _)
      | (with_reducible exact spec_l11Gaps.mono _ _ _ _ _)
      | (with_reducible exact spec_l11Numbers.mono _ _ _ _)
      | (with_reducible exact spec_l11Size.mono _ _ _)
      | (with_reducible exact spec_l11Spoilt.mono _ _ _ _ _)
      | (with_reducible exact spec_l1Rd_pick.mono _ _ _ _)
      | (with_reducible exact LeO.refl _)
      | (with_reducible exact LeO.none _)
      | (with_reducible refine LeO.ite ?_ ?_)
      | (with_reducible refine LeO.bind ?_ (fun _ => ?_))
      | exact ih0 _ _ _ _ _ _ _
      | exact ih1 _ _ _ _ _ _ _ _
      | exact spec_GapsTop.mono _ _
      | exact spec_l11Copy.mono _ _ _
      | exact spec_l11Gaps.mono _ _ _ _ _
      | exact spec_l11Numbers.mono _ _ _ _
      | exact spec_l11Size.mono _ _ _
      | exact spec_l11Spoilt.mono _ _ _ _ _
      | exact spec_l1Rd_pick.mono _ _ _ _
      | exact LeO.none _
      | refine LeO.ite ?_ ?_
      | refine LeO.bind ?_ (fun _ => ?_)
    · intro y0 y1 y2 y3 y4 y5 y6 y7
      unfold spec_l11Pair.j0
      repeat' first
      | (with_reducible exact ih0 _ _ _ _ _ _ _)
      | (with_reducible exact ih1 _ _ _ _ _ _ _ _)
      | (with_reducible exact spec_GapsTop.mono _ _)
      | (with_reducible exact spec_l11Copy.mono _ _ _)
      | (with_reducible exact spec_l11Gaps.mono _ _ _ _ _)
      | (with_reducible exact spec_l11Numbers.mono _ _ _ _)
      | (with_reducible exact spec_l11Size.mono _ _ _)
      | (with_reducible exact spec_l11Spoilt.mono _ _ _ _ _)
      | (with_reducible exact spec_l1Rd_pick.mono _ _ _ _)
      | (with_reducible exact LeO.refl _)
      | (with_reducible exact LeO.none _)
      | (with_reducible refine LeO.ite ?_ ?_)
      | (with_reducible refine LeO.bind ?_ (fun _ => ?_))
      | exact ih0 _ _ _ _ _ _ _
      | exact ih1 _ _ _ _ _ _ _ _
      | exact spec_GapsTop.mono _ _
      | exact spec_l11Copy.mono _ _ _
      | exact spec_l11Gaps.mono _ _ _ _ _
      | exact spec_l11Numbers.mono _ _ _ _
      | exact spec_l11Size.mono _ _ _
      | exact spec_l11Spoilt.mono _ _ _ _ _
      | exact spec_l1Rd_pick.mono _ _ _ _
      | exact LeO.none _
      | refine LeO.ite ?_ ?_
      | refine LeO.bind ?_ (fun _ => ?_)
theorem spec_l11Pair.mono : ∀ a0 a1 k, LeO (spec_l11Pair.f k a0 a1) (spec_l11Pair.f (k + 1) a0 a1) := by
  intro a0 a1 k
  obtain ⟨ih0, ih1⟩ := spec_l11Pair.mono_l k
  unfold spec_l11Pair.f
  repeat' first
      | (with_reducible exact ih0 _ _ _ _ _ _ _)
      | (with_reducible exact ih1 _ _ _ _ _ _ _ _)
      | (with_reducible exact spec_GapsTop.mono _ _)
      | (with_reducible exact spec_l11Copy.mono _ _ _)
      | (with_reducible exact spec_l11Gaps.mono _ _ _ _ _)
      | (with_reducible exact spec_l11Numbers.mono _ _ _ _)
      | (with_reducible exact spec_l11Size.mono _ _ _)
      | (with_reducible exact spec_l11Spoilt.mono _ _ _ _ _)
      | (with_reducible exact spec_l1Rd_pick.mono _ _ _ _)
      | (with_reducible exact LeO.refl _)
      | (with_reducible exact LeO.none _)
      | (with_reducible refine LeO.ite ?_ ?_)
      | (with_reducible refine LeO.bind ?_ (fun _ => ?_))
      | exact ih0 _ _ _ _ _ _ _
      | exact ih1 _ _ _ _ _ _ _ _
      | exact spec_GapsTop.mono _ _
      | exact spec_l11Copy.mono _ _ _
      | exact spec_l11Gaps.mono _ _ _ _ _
      | exact spec_l11Numbers.mono _ _ _ _
      | exact spec_l11Size.mono _ _ _
      | exact spec_l11Spoilt.mono _ _ _ _ _
      | exact spec_l1Rd_pick.mono _ _ _ _
      | exact LeO.none _
      | refine LeO.ite ?_ ?_
      | refine LeO.bind ?_ (fun _ => ?_)
set_option maxHeartbeats 8000000 in
set_option maxRecDepth 100000 in
theorem spec_l11Pair.calls (k : Nat) (g : Nat) (s0_0 : List Int) (s0_1 : Int) (r1 : Int) (r2 : List Int) (r3 : Int) (r4 : List Int) (r5 : Int) (w0 w : World) (hI : IsS161 w0 w g s0_0 s0_1) (hB : Below w0.heap.size w0 w) (h : spec_l11Pair.f k s0_0 s0_1 = some (r1, r2, r3, r4, r5)) :
    Calls Try.prog 123 #[.pointer (some ⟨g, 0, none⟩)] w fun e w' => ∃ v1_ v3_ : Value, e = .returned (.tuple #[.agg #[.int .i64 r1, v1_], .agg #[.int .i64 r3, v3_]]) ∧ Kd.R (Kd.int .i64) 3 w' w.heap.size (fun k_ => some k_ ≠ (v3_ : Value).ownBlock) v1_ r2 ∧ Kd.R (Kd.int .i64) 3 w' w.heap.size (fun k_ => some k_ ≠ (v1_ : Value).ownBlock) v3_ r4 ∧ IsS161 w0 w' g s0_0 r5 ∧ Below w0.heap.size w0 w' ∧ KeepBut w w' g none := by
  have hu41 := Try.underlying41
  have HI0 := Aside0.mk hI
  have HK := Aside0.mk (KeepBut.refl w g none)
  have HL := Aside0.mk hB.size
  clear hI
  have HW0 := Aside0.mk hB.size
  have HB := Aside0.mk hB
  clear hB
  have H : ((spec_l11Size.f k s0_0 s0_1).bind fun bt282 => ((spec_l11Numbers.f k s0_0 bt282.2 bt282.1).bind fun bt284 => ((spec_l11Gaps.f k s0_0 bt284.2 bt282.1 bt284.1).bind fun bt288 => ((spec_l11Gaps.f k s0_0 bt288.2.2 bt282.1 bt284.1).bind fun bt294 => ((spec_l1Rd_pick.f k s0_0 bt294.2.2 3).bind fun bt300 => (if bt300.1 = 0 then ((spec_l11Copy.f k bt288.1 bt288.2.1).bind fun bt302 => (if (bt302.2.length : Int) > 1 then (spec_l11Pair.j0 k bt282.1 (decide (bt282.1 > 0)) s0_0 bt300.2 bt288.1 bt288.2.1 bt302.1 bt302.2) else (spec_l11Pair.j0 k bt282.1 false s0_0 bt300.2 bt288.1 bt288.2.1 bt302.1 bt302.2))) else (spec_l11Pair.j1 k bt282.1 s0_0 bt300.2 bt288.1 bt288.2.1 bt294.1 bt294.2.1))))))) = some (r1, r2, r3, r4, r5) := h
  clear h
  replace H := Option.bind_eq_some_iff.mp H
  obtain ⟨⟨t282, t283⟩, A20, H⟩ := H
  replace H : ((spec_l11Numbers.f k s0_0 t283 t282).bind fun bt284 => ((spec_l11Gaps.f k s0_0 bt284.2 t282 bt284.1).bind fun bt288 => ((spec_l11Gaps.f k s0_0 bt288.2.2 t282 bt284.1).bind fun bt294 => ((spec_l1Rd_pick.f k s0_0 bt294.2.2 3).bind fun bt300 => (if bt300.1 = 0 then ((spec_l11Copy.f k bt288.1 bt288.2.1).bind fun bt302 => (if (bt302.2.length : Int) > 1 then (spec_l11Pair.j0 k t282 (decide (t282 > 0)) s0_0 bt300.2 bt288.1 bt288.2.1 bt302.1 bt302.2) else (spec_l11Pair.j0 k t282 false s0_0 bt300.2 bt288.1 bt288.2.1 bt302.1 bt302.2))) else (spec_l11Pair.j1 k t282 s0_0 bt300.2 bt288.1 bt288.2.1 bt294.1 bt294.2.1)))))) = some (r1, r2, r3, r4, r5) := H
  have A2 := Aside0.mk A20
  clear A20
  replace H := Option.bind_eq_some_iff.mp H
  obtain ⟨⟨t284, t287⟩, A30, H⟩ := H
  replace H : ((spec_l11Gaps.f k s0_0 t287 t282 t284).bind fun bt288 => ((spec_l11Gaps.f k s0_0 bt288.2.2 t282 t284).bind fun bt294 => ((spec_l1Rd_pick.f k s0_0 bt294.2.2 3).bind fun bt300 => (if bt300.1 = 0 then ((spec_l11Copy.f k bt288.1 bt288.2.1).bind fun bt302 => (if (bt302.2.length : Int) > 1 then (spec_l11Pair.j0 k t282 (decide (t282 > 0)) s0_0 bt300.2 bt288.1 bt288.2.1 bt302.1 bt302.2) else (spec_l11Pair.j0 k t282 false s0_0 bt300.2 bt288.1 bt288.2.1 bt302.1 bt302.2))) else (spec_l11Pair.j1 k t282 s0_0 bt300.2 bt288.1 bt288.2.1 bt294.1 bt294.2.1))))) = some (r1, r2, r3, r4, r5) := H
  have A3 := Aside0.mk A30
  clear A30
  replace H := Option.bind_eq_some_iff.mp H
  obtain ⟨⟨t288, t289, t292⟩, A40, H⟩ := H
  replace H : ((spec_l11Gaps.f k s0_0 t292 t282 t284).bind fun bt294 => ((spec_l1Rd_pick.f k s0_0 bt294.2.2 3).bind fun bt300 => (if bt300.1 = 0 then ((spec_l11Copy.f k t288 t289).bind fun bt302 => (if (bt302.2.length : Int) > 1 then (spec_l11Pair.j0 k t282 (decide (t282 > 0)) s0_0 bt300.2 t288 t289 bt302.1 bt302.2) else (spec_l11Pair.j0 k t282 false s0_0 bt300.2 t288 t289 bt302.1 bt302.2))) else (spec_l11Pair.j1 k t282 s0_0 bt300.2 t288 t289 bt294.1 bt294.2.1)))) = some (r1, r2, r3, r4, r5) := H
  have A4 := Aside0.mk A40
  clear A40
  replace H := Option.bind_eq_some_iff.mp H
  obtain ⟨⟨t294, t295, t298⟩, A50, H⟩ := H
  replace H : ((spec_l1Rd_pick.f k s0_0 t298 3).bind fun bt300 => (if bt300.1 = 0 then ((spec_l11Copy.f k t288 t289).bind fun bt302 => (if (bt302.2.length : Int) > 1 then (spec_l11Pair.j0 k t282 (decide (t282 > 0)) s0_0 bt300.2 t288 t289 bt302.1 bt302.2) else (spec_l11Pair.j0 k t282 false s0_0 bt300.2 t288 t289 bt302.1 bt302.2))) else (spec_l11Pair.j1 k t282 s0_0 bt300.2 t288 t289 t294 t295))) = some (r1, r2, r3, r4, r5) := H
  have A5 := Aside0.mk A50
  clear A50
  replace H := Option.bind_eq_some_iff.mp H
  obtain ⟨⟨t300, t301⟩, A60, H⟩ := H
  replace H : (if t300 = 0 then ((spec_l11Copy.f k t288 t289).bind fun bt302 => (if (bt302.2.length : Int) > 1 then (spec_l11Pair.j0 k t282 (decide (t282 > 0)) s0_0 t301 t288 t289 bt302.1 bt302.2) else (spec_l11Pair.j0 k t282 false s0_0 t301 t288 t289 bt302.1 bt302.2))) else (spec_l11Pair.j1 k t282 s0_0 t301 t288 t289 t294 t295)) = some (r1, r2, r3, r4, r5) := H
  have A6 := Aside0.mk A60
  clear A60
  have HC7 := Aside0.mk H
  clear H
  go_enter Try.func123, Try.ntmps123
  go_upto_if 24 with (first | ((with_reducible refine gate_dst (N := 2) rfl ?_); refine sqx 2 #[.int .i64 0, .slice none 0 0] 41 ?_; intro gb280 hg w8 hbox hb; have n0_ := Aside0.mk (IsS161.below (by repeat (first | (with_reducible first | exact HI0.out | apply IsS161.alloc | apply IsS161.drewN | apply IsS161.drew | apply IsS161.set_1) | exact HI0.out)) hb); have n1_ := Aside0.mk (KeepBut.trans (by repeat (first | (with_reducible first | exact HK.out | apply KeepBut.set_ | apply keep_drewN | apply keep_drew | apply keep_alloc) | exact HK.out)) (KeepBut.of_below hb g none) (.inl rfl)); have n2_ := Aside0.mk (below_step (by repeat (first | (with_reducible first | exact HB.out | apply below_alloc | apply pw_below_drewN | apply below_drew1 | refine below_set ?_ (IsS161.ge HI0.out)) | exact HB.out)) hb); have n3_ := Aside0.mk (hbox); have n4_ := Aside0.mk ((by rw [hg]; exact (keep_size (w := w) (g := g) (row := none) (by repeat (first | (with_reducible first | exact HK.out | apply KeepBut.set_ | apply keep_drewN | apply keep_drew | apply keep_alloc) | exact HK.out))) : w.heap.size ≤ gb280)); have n5_ := Aside0.mk ((Nat.le_trans HW0.out (by rw [hg]; exact (keep_size (w := w) (g := g) (row := none) (by repeat (first | (with_reducible first | exact HK.out | apply KeepBut.set_ | apply keep_drewN | apply keep_drew | apply keep_alloc) | exact HK.out))) : w.heap.size ≤ gb280) : w0.heap.size ≤ gb280)); have n6_ := Aside0.mk ((by rw [hg]; exact Nat.ne_of_lt (IsS161.lt (show IsS161 w0 _ g s0_0 s0_1 from by repeat (first | (with_reducible first | exact HI0.out | apply IsS161.alloc | apply IsS161.drewN | apply IsS161.drew | apply IsS161.set_1) | exact HI0.out))) : g ≠ gb280)); have n7_ := Aside0.mk ((by rw [hg]; exact Nat.ne_of_gt (IsS161.lt (show IsS161 w0 _ g s0_0 s0_1 from by repeat (first | (with_reducible first | exact HI0.out | apply IsS161.alloc | apply IsS161.drewN | apply IsS161.drew | apply IsS161.set_1) | exact HI0.out))) : gb280 ≠ g)); clear HI0; clear HK; clear HB; have HI0 := n0_; have HK := n1_; have HB := n2_; have BK280 := n3_; have GW280 := n4_; have GE280 := n5_; have NB0_280 := n6_; have NB280_0 := n7_; clear n0_ n1_ n2_ n3_ n4_ n5_ n6_ n7_; clear hb hbox hg) | ((with_reducible refine gate_dst (N := 3) rfl ?_); refine sqx 3 #[.int .i64 0, .slice none 0 0] 41 ?_; intro gb281 hg w9 hbox hb; have n0_ := Aside0.mk (IsS161.below (by repeat (first | (with_reducible first | exact HI0.out | apply IsS161.alloc | apply IsS161.drewN | apply IsS161.drew | apply IsS161.set_1 | refine IsS161.far ?_ NB0_280.out _) | exact HI0.out)) hb); have n1_ := sqb BK280 hb; have n2_ := Aside0.mk (KeepBut.trans (by repeat (first | (with_reducible first | exact HK.out | apply KeepBut.set_ | apply keep_drewN | apply keep_drew | apply keep_alloc | refine keep_far ?_ GW280.out _) | exact HK.out)) (KeepBut.of_below hb g none) (.inl rfl)); have n3_ := Aside0.mk (below_step (by repeat (first | (with_reducible first | exact HB.out | apply below_alloc | apply pw_below_drewN | apply below_drew1 | refine below_set ?_ (IsS161.ge HI0.out) | refine below_set ?_ GE280.out) | exact HB.out)) hb); have n4_ := Aside0.mk (hbox); have n5_ := Aside0.mk ((by rw [hg]; exact (keep_size (w := w) (g := g) (row := none) (by repeat (first | (with_reducible first | exact HK.out | apply KeepBut.set_ | apply keep_drewN | apply keep_drew | apply keep_alloc | refine keep_far ?_ GW280.out _) | exact HK.out))) : w.heap.size ≤ gb281)); have n6_ := Aside0.mk ((Nat.le_trans HW0.out (by rw [hg]; exact (keep_size (w := w) (g := g) (row := none) (by repeat (first | (with_reducible first | exact HK.out | apply KeepBut.set_ | apply keep_drewN | apply keep_drew | apply keep_alloc | refine keep_far ?_ GW280.out _) | exact HK.out))) : w.heap.size ≤ gb281) : w0.heap.size ≤ gb281)); have n7_ := sqn BK280 hg; have n8_ := sqm BK280 hg; have n9_ := Aside0.mk ((by rw [hg]; exact Nat.ne_of_lt (IsS161.lt (show IsS161 w0 _ g s0_0 s0_1 from by repeat (first | (with_reducible first | exact HI0.out | apply IsS161.alloc | apply IsS161.drewN | apply IsS161.drew | apply IsS161.set_1 | refine IsS161.far ?_ NB0_280.out _) | exact HI0.out))) : g ≠ gb281)); have n10_ := Aside0.mk ((by rw [hg]; exact Nat.ne_of_gt (IsS161.lt (show IsS161 w0 _ g s0_0 s0_1 from by repeat (first | (with_reducible first | exact HI0.out | apply IsS161.alloc | apply IsS161.drewN | apply IsS161.drew | apply IsS161.set_1 | refine IsS161.far ?_ NB0_280.out _) | exact HI0.out))) : gb281 ≠ g)); clear HI0; clear BK280; clear HK; clear HB; have HI0 := n0_; have BK280 := n1_; have HK := n2_; have HB := n3_; have BK281 := n4_; have GW281 := n5_; have GE281 := n6_; have NB280_281 := n7_; have NB281_280 := n8_; have NB0_281 := n9_; have NB281_0 := n10_; clear n0_ n1_ n2_ n3_ n4_ n5_ n6_ n7_ n8_ n9_ n10_; clear hb hbox hg) | ((with_reducible refine gate_callee (f := 106) rfl ?_); refine sqL (some 10) Try.func106 #[.pointer (some ⟨g, 0, none⟩)] ?_; (with_reducible refine (spec_l11Size.calls k g s0_0 s0_1 t282 t283 w0 _ ?side1 ?side2 A2.out).mono ?_); (case side1 => repeat (first | (with_reducible first | exact HI0.out | apply IsS161.alloc | apply IsS161.drewN | apply IsS161.drew | apply IsS161.set_1 | refine IsS161.far ?_ NB0_280.out _ | refine IsS161.far ?_ NB0_281.out _) | exact HI0.out)); (case side2 => repeat (first | (with_reducible first | exact HB.out | apply below_alloc | apply pw_below_drewN | apply below_drew1 | refine below_set ?_ (IsS161.ge HI0.out) | refine below_set ?_ GE280.out | refine below_set ?_ GE281.out) | exact HB.out)); rintro e w10 ⟨rfl, hi, hb, hk⟩; refine ⟨_, rfl, ?_⟩; have n0_ := Aside0.mk (KeepBut.blk hk (g' := gb280) (o := .cells #[.int .i64 0, .slice none 0 0] 41 (0, 0)) (by refine sqt ?_; exact BK280.out) NB280_0.out (by simp)); have n1_ := Aside0.mk (KeepBut.blk hk (g' := gb281) (o := .cells #[.int .i64 0, .slice none 0 0] 41 (0, 0)) (by refine sqt ?_; exact BK281.out) NB281_0.out (by simp)); have n2_ := Aside0.mk (KeepBut.trans (by repeat (first | (with_reducible first | exact HK.out | apply KeepBut.set_ | apply keep_drewN | apply keep_drew | apply keep_alloc | refine keep_far ?_ GW280.out _ | refine keep_far ?_ GW281.out _) | exact HK.out)) hk (.inl rfl)); have n3_ := Aside0.mk (hb); have n4_ := Aside0.mk (hi); clear BK280; clear BK281; clear HK; clear HB; clear HI0; have BK280 := n0_; have BK281 := n1_; have HK := n2_; have HB := n3_; have HI0 := n4_; clear n0_ n1_ n2_ n3_ n4_; (try clear hb); (try clear hb2); (try clear hk); (try clear hi)) | ((with_reducible refine gate_callee (f := 107) rfl ?_); refine sqL (some 13) Try.func107 #[.pointer (some ⟨g, 0, none⟩), .int .i64 t282] ?_; (with_reducible refine (spec_l11Numbers.calls k g s0_0 t283 t282 t284 t287 w0 _ ?side1 ?side2 A3.out).mono ?_); (case side1 => repeat (first | (with_reducible first | exact HI0.out | apply IsS161.alloc | apply IsS161.drewN | apply IsS161.drew | apply IsS161.set_1 | refine IsS161.far ?_ NB0_280.out _ | refine IsS161.far ?_ NB0_281.out _) | exact HI0.out)); (case side2 => repeat (first | (with_reducible first | exact HB.out | apply below_alloc | apply pw_below_drewN | apply below_drew1 | refine below_set ?_ (IsS161.ge HI0.out) | refine below_set ?_ GE280.out | refine below_set ?_ GE281.out) | exact HB.out)); rintro e w11 ⟨v285, rfl, ho0, hi, hb, hk⟩; refine ⟨_, rfl, ?_⟩; have n0_ := Aside0.mk (KeepBut.blk hk (g' := gb280) (o := .cells #[.int .i64 0, .slice none 0 0] 41 (0, 0)) (by refine sqt ?_; exact BK280.out) NB280_0.out (by simp)); have n1_ := Aside0.mk (KeepBut.blk hk (g' := gb281) (o := .cells #[.int .i64 0, .slice none 0 0] 41 (0, 0)) (by refine sqt ?_; exact BK281.out) NB281_0.out (by simp)); have n2_ := Aside0.mk (Kd.R_lower ho0 (keep_size (w := w) (g := g) (row := none) (by repeat (first | (with_reducible first | exact HK.out | apply KeepBut.set_ | apply keep_drewN | apply keep_drew | apply keep_alloc | refine keep_far ?_ GW280.out _ | refine keep_far ?_ GW281.out _) | exact HK.out)))); have n3_ := Aside0.mk (KeepBut.trans (by repeat (first | (with_reducible first | exact HK.out | apply KeepBut.set_ | apply keep_drewN | apply keep_drew | apply keep_alloc | refine keep_far ?_ GW280.out _ | refine keep_far ?_ GW281.out _) | exact HK.out)) hk (.inl rfl)); have n4_ := Aside0.mk (hb); have n5_ := Aside0.mk (hi); clear BK280; clear BK281; clear HK; clear HB; clear HI0; have BK280 := n0_; have BK281 := n1_; have HO286 := n2_; have HK := n3_; have HB := n4_; have HI0 := n5_; clear n0_ n1_ n2_ n3_ n4_ n5_; (try clear hb); (try clear hb2); (try clear hk); (try clear hi); (try clear ho0); obtain ⟨Ao12, co12, eo12⟩ := Kd.R_slice HO286.out; subst eo12) | ((with_reducible refine gate_callee (f := 108) rfl ?_); refine sqL (some 17) Try.func108 #[.pointer (some ⟨g, 0, none⟩), .int .i64 t282, .slice Ao12 t284.length co12] ?_; (with_reducible refine (spec_l11Gaps.calls k g s0_0 t287 t282 _ _ t284 t288 t289 t292 w0 _ ?side1 ?side2 ?side3 ?side4 ?side5 A4.out).mono ?_); (case side1 => repeat (first | (with_reducible first | exact HI0.out | apply IsS161.alloc | apply IsS161.drewN | apply IsS161.drew | apply IsS161.set_1 | refine IsS161.far ?_ NB0_280.out _ | refine IsS161.far ?_ NB0_281.out _) | exact HI0.out)); (case side2 => repeat (first | (with_reducible first | exact HB.out | apply below_alloc | apply pw_below_drewN | apply below_drew1 | refine below_set ?_ (IsS161.ge HI0.out) | refine below_set ?_ GE280.out | refine below_set ?_ GE281.out) | exact HB.out)); (case side3 => repeat (first | exact (Kd.R_reads' HO286.out).2.2 | (with_reducible refine Kd.C_alloc ?_ _) | (with_reducible refine Kd.C_drewN ?_ _) | (with_reducible refine Kd.C_drew ?_))); (case side4 => exact (Kd.R_reads' HO286.out).2.1); (case side5 => exact far_slice (IsS161.own_ne HI0.out HO286.out (by decide))); rintro e w13 ⟨v290, rfl, ho0, hi, hb, hk⟩; refine ⟨_, rfl, ?_⟩; have n0_ := Aside0.mk (KeepBut.blk hk (g' := gb280) (o := .cells #[.int .i64 0, .slice none 0 0] 41 (0, 0)) (by refine sqt ?_; exact BK280.out) NB280_0.out (by simp)); have n1_ := Aside0.mk (KeepBut.blk hk (g' := gb281) (o := .cells #[.int .i64 0, .slice none 0 0] 41 (0, 0)) (by refine sqt ?_; exact BK281.out) NB281_0.out (by simp)); have n2_ := Aside0.mk (Kd.R_mono (Kd.R_told (Kd.R_oldK (IsS161.apart (show IsS161 w0 _ g s0_0 t287 from by repeat (first | (with_reducible first | exact HI0.out | apply IsS161.alloc | apply IsS161.drewN | apply IsS161.drew | apply IsS161.set_1 | refine IsS161.far ?_ NB0_280.out _ | refine IsS161.far ?_ NB0_281.out _) | exact HI0.out)) (by (with_reducible repeat (first | apply Kd.R_alloc | apply Kd.R_drewN | apply Kd.R_drew)); exact HO286.out) (by decide)) hk) (Kd.R_base ho0)) (fun _ h_ => h_.1)); have n3_ := Aside0.mk (Kd.R_lower (Kd.R_new' ho0 (Kd.R_lt (by (with_reducible repeat (first | apply Kd.R_alloc | apply Kd.R_drewN | apply Kd.R_drew)); exact HO286.out))) (keep_size (w := w) (g := g) (row := none) (by repeat (first | (with_reducible first | exact HK.out | apply KeepBut.set_ | apply keep_drewN | apply keep_drew | apply keep_alloc | refine keep_far ?_ GW280.out _ | refine keep_far ?_ GW281.out _) | exact HK.out)))); have n4_ := Aside0.mk (KeepBut.trans (by repeat (first | (with_reducible first | exact HK.out | apply KeepBut.set_ | apply keep_drewN | apply keep_drew | apply keep_alloc | refine keep_far ?_ GW280.out _ | refine keep_far ?_ GW281.out _) | exact HK.out)) hk (.inl rfl)); have n5_ := Aside0.mk (hb); have n6_ := Aside0.mk (hi); clear BK280; clear BK281; clear HO286; clear HK; clear HB; clear HI0; have BK280 := n0_; have BK281 := n1_; have HO286 := n2_; have HO291 := n3_; have HK := n4_; have HB := n5_; have HI0 := n6_; clear n0_ n1_ n2_ n3_ n4_ n5_ n6_; (try clear hb); (try clear hb2); (try clear hk); (try clear hi); (try clear ho0)) | ((with_reducible refine gate_dst (N := 6) rfl ?_); refine sqx 6 #[.int .i64 0, .slice none 0 0] 41 ?_; intro gb293 hg w14 hbox hb; have n0_ := Aside0.mk (Kd.R_below (by (with_reducible repeat (first | apply Kd.R_alloc | apply Kd.R_drewN | apply Kd.R_drew)); exact HO286.out) hb); have n1_ := Aside0.mk (Kd.R_below (by (with_reducible repeat (first | apply Kd.R_alloc | apply Kd.R_drewN | apply Kd.R_drew)); exact HO291.out) hb); have n2_ := Aside0.mk (IsS161.below (by repeat (first | (with_reducible first | exact HI0.out | apply IsS161.alloc | apply IsS161.drewN | apply IsS161.drew | apply IsS161.set_1 | refine IsS161.far ?_ NB0_280.out _ | refine IsS161.far ?_ NB0_281.out _) | exact HI0.out)) hb); have n3_ := sqb BK280 hb; have n4_ := sqb BK281 hb; have n5_ := Aside0.mk (KeepBut.trans (by repeat (first | (with_reducible first | exact HK.out | apply KeepBut.set_ | apply keep_drewN | apply keep_drew | apply keep_alloc | refine keep_far ?_ GW280.out _ | refine keep_far ?_ GW281.out _) | exact HK.out)) (KeepBut.of_below hb g none) (.inl rfl)); have n6_ := Aside0.mk (below_step (by repeat (first | (with_reducible first | exact HB.out | apply below_alloc | apply pw_below_drewN | apply below_drew1 | refine below_set ?_ (IsS161.ge HI0.out) | refine below_set ?_ GE280.out | refine below_set ?_ GE281.out) | exact HB.out)) hb); have n7_ := Aside0.mk (hbox); have n8_ := Aside0.mk ((by rw [hg]; exact (keep_size (w := w) (g := g) (row := none) (by repeat (first | (with_reducible first | exact HK.out | apply KeepBut.set_ | apply keep_drewN | apply keep_drew | apply keep_alloc | refine keep_far ?_ GW280.out _ | refine keep_far ?_ GW281.out _) | exact HK.out))) : w.heap.size ≤ gb293)); have n9_ := Aside0.mk ((Nat.le_trans HW0.out (by rw [hg]; exact (keep_size (w := w) (g := g) (row := none) (by repeat (first | (with_reducible first | exact HK.out | apply KeepBut.set_ | apply keep_drewN | apply keep_drew | apply keep_alloc | refine keep_far ?_ GW280.out _ | refine keep_far ?_ GW281.out _) | exact HK.out))) : w.heap.size ≤ gb293) : w0.heap.size ≤ gb293)); have n10_ := sqn BK280 hg; have n11_ := sqm BK280 hg; have n12_ := sqn BK281 hg; have n13_ := sqm BK281 hg; have n14_ := Aside0.mk ((by rw [hg]; exact Nat.ne_of_lt (IsS161.lt (show IsS161 w0 _ g s0_0 t292 from by repeat (first | (with_reducible first | exact HI0.out | apply IsS161.alloc | apply IsS161.drewN | apply IsS161.drew | apply IsS161.set_1 | refine IsS161.far ?_ NB0_280.out _ | refine IsS161.far ?_ NB0_281.out _) | exact HI0.out))) : g ≠ gb293)); have n15_ := Aside0.mk ((by rw [hg]; exact Nat.ne_of_gt (IsS161.lt (show IsS161 w0 _ g s0_0 t292 from by repeat (first | (with_reducible first | exact HI0.out | apply IsS161.alloc | apply IsS161.drewN | apply IsS161.drew | apply IsS161.set_1 | refine IsS161.far ?_ NB0_280.out _ | refine IsS161.far ?_ NB0_281.out _) | exact HI0.out))) : gb293 ≠ g)); clear HO286; clear HO291; clear HI0; clear BK280; clear BK281; clear HK; clear HB; have HO286 := n0_; have HO291 := n1_; have HI0 := n2_; have BK280 := n3_; have BK281 := n4_; have HK := n5_; have HB := n6_; have BK293 := n7_; have GW293 := n8_; have GE293 := n9_; have NB280_293 := n10_; have NB293_280 := n11_; have NB281_293 := n12_; have NB293_281 := n13_; have NB0_293 := n14_; have NB293_0 := n15_; clear n0_ n1_ n2_ n3_ n4_ n5_ n6_ n7_ n8_ n9_ n10_ n11_ n12_ n13_ n14_ n15_; clear hb hbox hg; have hnb15 := NB293_280.out; have hnc15 := NB280_293.out; have hnb16 := NB293_281.out; have hnc16 := NB281_293.out; have hnb17 := NB293_0.out; have hnc17 := NB0_293.out; obtain ⟨hcz18_0, hcz18_1, hfz18_0, hfz18_1⟩ := sqc2 BK293; obtain ⟨Ao19, co19, eo19⟩ := Kd.R_slice HO291.out; subst eo19) | ((with_reducible refine gate_callee (f := 108) rfl ?_); refine sqL (some 21) Try.func108 #[.pointer (some ⟨g, 0, none⟩), .int .i64 t282, .slice Ao12 t284.length co12] ?_; (with_reducible refine (spec_l11Gaps.calls k g s0_0 t292 t282 _ _ t284 t294 t295 t298 w0 _ ?side1 ?side2 ?side3 ?side4 ?side5 A5.out).mono ?_); (case side1 => repeat (first | (with_reducible first | exact HI0.out | apply IsS161.alloc | apply IsS161.drewN | apply IsS161.drew | apply IsS161.set_1 | refine IsS161.far ?_ NB0_280.out _ | refine IsS161.far ?_ NB0_281.out _ | refine IsS161.far ?_ NB0_293.out _) | exact HI0.out)); (case side2 => repeat (first | (with_reducible first | exact HB.out | apply below_alloc | apply pw_below_drewN | apply below_drew1 | refine below_set ?_ (IsS161.ge HI0.out) | refine below_set ?_ GE280.out | refine below_set ?_ GE281.out | refine below_set ?_ GE293.out) | exact HB.out)); (case side3 => refine (Kd.R_reads' (e := 3) (base := w.heap.size) (ok := fun k_ => (True ∧ some k_ ≠ (.slice Ao19 t289.length co19 : Value).ownBlock)) (n := t284.length) (c := co12) ?_).2.2; exact (by (with_reducible repeat (first | apply Kd.R_alloc | apply Kd.R_drewN | apply Kd.R_drew)); exact (Kd.R_mono (Kd.R_far (p := ⟨gb293, 1, none⟩) (Kd.R_far (p := ⟨gb293, 0, none⟩) (Kd.R_types HO286.out BK293.out (by decide)) (fun _ hk => hk.2) (.int .i64 t288)) (fun _ hk => hk.2) (.slice Ao19 t289.length co19)) (fun _ h_ => h_.1)))); (case side4 => exact (Kd.R_reads' HO286.out).2.1); (case side5 => exact far_slice (IsS161.own_ne HI0.out HO286.out (by decide))); rintro e w20 ⟨v296, rfl, ho0, hi, hb, hk⟩; refine ⟨_, rfl, ?_⟩; have n0_ := Aside0.mk (KeepBut.blk hk (g' := gb280) (o := .cells #[.int .i64 0, .slice none 0 0] 41 (0, 0)) (by refine sqt ?_; refine blk_far ?_ NB280_293.out _; refine sqt ?_; refine blk_far ?_ NB280_293.out _; refine sqt ?_; exact BK280.out) NB280_0.out (by simp)); have n1_ := Aside0.mk (KeepBut.blk hk (g' := gb281) (o := .cells #[.int .i64 0, .slice none 0 0] 41 (0, 0)) (by refine sqt ?_; refine blk_far ?_ NB281_293.out _; refine sqt ?_; refine blk_far ?_ NB281_293.out _; refine sqt ?_; exact BK281.out) NB281_0.out (by simp)); have n2_ := Aside0.mk (Kd.R_mono (Kd.R_told (Kd.R_oldK (IsS161.apart (show IsS161 w0 _ g s0_0 t292 from by repeat (first | (with_reducible first | exact HI0.out | apply IsS161.alloc | apply IsS161.drewN | apply IsS161.drew | apply IsS161.set_1 | refine IsS161.far ?_ NB0_280.out _ | refine IsS161.far ?_ NB0_281.out _ | refine IsS161.far ?_ NB0_293.out _) | exact HI0.out)) (by (with_reducible repeat (first | apply Kd.R_alloc | apply Kd.R_drewN | apply Kd.R_drew)); exact (Kd.R_mono (Kd.R_far (p := ⟨gb293, 1, none⟩) (Kd.R_far (p := ⟨gb293, 0, none⟩) (Kd.R_types HO286.out BK293.out (by decide)) (fun _ hk => hk.2) (.int .i64 t288)) (fun _ hk => hk.2) (.slice Ao19 t289.length co19)) (fun _ h_ => h_.1))) (by decide)) hk) (Kd.R_base ho0)) (fun _ h_ => h_.1)); have n3_ := Aside0.mk (Kd.R_mono (Kd.R_told (Kd.R_oldK (IsS161.apart (show IsS161 w0 _ g s0_0 t292 from by repeat (first | (with_reducible first | exact HI0.out | apply IsS161.alloc | apply IsS161.drewN | apply IsS161.drew | apply IsS161.set_1 | refine IsS161.far ?_ NB0_280.out _ | refine IsS161.far ?_ NB0_281.out _ | refine IsS161.far ?_ NB0_293.out _) | exact HI0.out)) (by (with_reducible repeat (first | apply Kd.R_alloc | apply Kd.R_drewN | apply Kd.R_drew)); exact (Kd.R_mono (Kd.R_far (p := ⟨gb293, 1, none⟩) (Kd.R_far (p := ⟨gb293, 0, none⟩) (Kd.R_types HO291.out BK293.out (by decide)) (fun _ hk => hk.2) (.int .i64 t288)) (fun _ hk => hk.2) (.slice Ao19 t289.length co19)) (fun _ h_ => h_.1))) (by decide)) hk) (Kd.R_base ho0)) (fun _ h_ => h_.1)); have n4_ := Aside0.mk (KeepBut.blk hk (g' := gb293) (o := .cells #[.int .i64 t288, .slice Ao19 t289.length co19] 41 (0, 0)) (by refine sqt ?_; refine blk_put (cs := #[.int .i64 t288, .slice none 0 0]) ?_ 1 _ rfl; refine sqt ?_; refine blk_put (cs := #[.int .i64 0, .slice none 0 0]) ?_ 0 _ rfl; refine sqt ?_; exact BK293.out) NB293_0.out (by simp)); have n5_ := Aside0.mk (Kd.R_lower (Kd.R_new' (Kd.R_new' ho0 (Kd.R_lt (by (with_reducible repeat (first | apply Kd.R_alloc | apply Kd.R_drewN | apply Kd.R_drew)); exact (Kd.R_mono (Kd.R_far (p := ⟨gb293, 1, none⟩) (Kd.R_far (p := ⟨gb293, 0, none⟩) (Kd.R_types HO286.out BK293.out (by decide)) (fun _ hk => hk.2) (.int .i64 t288)) (fun _ hk => hk.2) (.slice Ao19 t289.length co19)) (fun _ h_ => h_.1))))) (Kd.R_lt (by (with_reducible repeat (first | apply Kd.R_alloc | apply Kd.R_drewN | apply Kd.R_drew)); exact (Kd.R_mono (Kd.R_far (p := ⟨gb293, 1, none⟩) (Kd.R_far (p := ⟨gb293, 0, none⟩) (Kd.R_types HO291.out BK293.out (by decide)) (fun _ hk => hk.2) (.int .i64 t288)) (fun _ hk => hk.2) (.slice Ao19 t289.length co19)) (fun _ h_ => h_.1))))) (keep_size (w := w) (g := g) (row := none) (by repeat (first | (with_reducible first | exact HK.out | apply KeepBut.set_ | apply keep_drewN | apply keep_drew | apply keep_alloc | refine keep_far ?_ GW280.out _ | refine keep_far ?_ GW281.out _ | refine keep_far ?_ GW293.out _) | exact HK.out)))); have n6_ := Aside0.mk (KeepBut.trans (by repeat (first | (with_reducible first | exact HK.out | apply KeepBut.set_ | apply keep_drewN | apply keep_drew | apply keep_alloc | refine keep_far ?_ GW280.out _ | refine keep_far ?_ GW281.out _ | refine keep_far ?_ GW293.out _) | exact HK.out)) hk (.inl rfl)); have n7_ := Aside0.mk (hb); have n8_ := Aside0.mk (hi); clear BK280; clear BK281; clear HO286; clear HO291; clear BK293; clear HK; clear HB; clear HI0; have BK280 := n0_; have BK281 := n1_; have HO286 := n2_; have HO291 := n3_; have BK293 := n4_; have HO297 := n5_; have HK := n6_; have HB := n7_; have HI0 := n8_; clear n0_ n1_ n2_ n3_ n4_ n5_ n6_ n7_ n8_; (try clear hb); (try clear hb2); (try clear hk); (try clear hi); (try clear ho0)) | ((with_reducible refine gate_dst (N := 7) rfl ?_); refine sqx 7 #[.int .i64 0, .slice none 0 0] 41 ?_; intro gb299 hg w21 hbox hb; have n0_ := Aside0.mk (Kd.R_below (by (with_reducible repeat (first | apply Kd.R_alloc | apply Kd.R_drewN | apply Kd.R_drew)); exact HO286.out) hb); have n1_ := Aside0.mk (Kd.R_below (by (with_reducible repeat (first | apply Kd.R_alloc | apply Kd.R_drewN | apply Kd.R_drew)); exact HO291.out) hb); have n2_ := Aside0.mk (Kd.R_below (by (with_reducible repeat (first | apply Kd.R_alloc | apply Kd.R_drewN | apply Kd.R_drew)); exact HO297.out) hb); have n3_ := Aside0.mk (IsS161.below (by repeat (first | (with_reducible first | exact HI0.out | apply IsS161.alloc | apply IsS161.drewN | apply IsS161.drew | apply IsS161.set_1 | refine IsS161.far ?_ NB0_280.out _ | refine IsS161.far ?_ NB0_281.out _ | refine IsS161.far ?_ NB0_293.out _) | exact HI0.out)) hb); have n4_ := sqb BK280 hb; have n5_ := sqb BK281 hb; have n6_ := sqb BK293 hb; have n7_ := Aside0.mk (KeepBut.trans (by repeat (first | (with_reducible first | exact HK.out | apply KeepBut.set_ | apply keep_drewN | apply keep_drew | apply keep_alloc | refine keep_far ?_ GW280.out _ | refine keep_far ?_ GW281.out _ | refine keep_far ?_ GW293.out _) | exact HK.out)) (KeepBut.of_below hb g none) (.inl rfl)); have n8_ := Aside0.mk (below_step (by repeat (first | (with_reducible first | exact HB.out | apply below_alloc | apply pw_below_drewN | apply below_drew1 | refine below_set ?_ (IsS161.ge HI0.out) | refine below_set ?_ GE280.out | refine below_set ?_ GE281.out | refine below_set ?_ GE293.out) | exact HB.out)) hb); have n9_ := Aside0.mk (hbox); have n10_ := Aside0.mk ((by rw [hg]; exact (keep_size (w := w) (g := g) (row := none) (by repeat (first | (with_reducible first | exact HK.out | apply KeepBut.set_ | apply keep_drewN | apply keep_drew | apply keep_alloc | refine keep_far ?_ GW280.out _ | refine keep_far ?_ GW281.out _ | refine keep_far ?_ GW293.out _) | exact HK.out))) : w.heap.size ≤ gb299)); have n11_ := Aside0.mk ((Nat.le_trans HW0.out (by rw [hg]; exact (keep_size (w := w) (g := g) (row := none) (by repeat (first | (with_reducible first | exact HK.out | apply KeepBut.set_ | apply keep_drewN | apply keep_drew | apply keep_alloc | refine keep_far ?_ GW280.out _ | refine keep_far ?_ GW281.out _ | refine keep_far ?_ GW293.out _) | exact HK.out))) : w.heap.size ≤ gb299) : w0.heap.size ≤ gb299)); have n12_ := sqn BK280 hg; have n13_ := sqm BK280 hg; have n14_ := sqn BK281 hg; have n15_ := sqm BK281 hg; have n16_ := sqn BK293 hg; have n17_ := sqm BK293 hg; have n18_ := Aside0.mk ((by rw [hg]; exact Nat.ne_of_lt (IsS161.lt (show IsS161 w0 _ g s0_0 t298 from by repeat (first | (with_reducible first | exact HI0.out | apply IsS161.alloc | apply IsS161.drewN | apply IsS161.drew | apply IsS161.set_1 | refine IsS161.far ?_ NB0_280.out _ | refine IsS161.far ?_ NB0_281.out _ | refine IsS161.far ?_ NB0_293.out _) | exact HI0.out))) : g ≠ gb299)); have n19_ := Aside0.mk ((by rw [hg]; exact Nat.ne_of_gt (IsS161.lt (show IsS161 w0 _ g s0_0 t298 from by repeat (first | (with_reducible first | exact HI0.out | apply IsS161.alloc | apply IsS161.drewN | apply IsS161.drew | apply IsS161.set_1 | refine IsS161.far ?_ NB0_280.out _ | refine IsS161.far ?_ NB0_281.out _ | refine IsS161.far ?_ NB0_293.out _) | exact HI0.out))) : gb299 ≠ g)); clear HO286; clear HO291; clear HO297; clear HI0; clear BK280; clear BK281; clear BK293; clear HK; clear HB; have HO286 := n0_; have HO291 := n1_; have HO297 := n2_; have HI0 := n3_; have BK280 := n4_; have BK281 := n5_; have BK293 := n6_; have HK := n7_; have HB := n8_; have BK299 := n9_; have GW299 := n10_; have GE299 := n11_; have NB280_299 := n12_; have NB299_280 := n13_; have NB281_299 := n14_; have NB299_281 := n15_; have NB293_299 := n16_; have NB299_293 := n17_; have NB0_299 := n18_; have NB299_0 := n19_; clear n0_ n1_ n2_ n3_ n4_ n5_ n6_ n7_ n8_ n9_ n10_ n11_ n12_ n13_ n14_ n15_ n16_ n17_ n18_ n19_; clear hb hbox hg; have hnb22 := NB299_280.out; have hnc22 := NB280_299.out; have hnb23 := NB299_281.out; have hnc23 := NB281_299.out; have hnb24 := NB299_293.out; have hnc24 := NB293_299.out; have hnb25 := NB299_0.out; have hnc25 := NB0_299.out; obtain ⟨hcz26_0, hcz26_1, hfz26_0, hfz26_1⟩ := sqc2 BK299; obtain ⟨Ao27, co27, eo27⟩ := Kd.R_slice HO297.out; subst eo27) | ((with_reducible refine gate_callee (f := 109) rfl ?_); refine sqL (some 23) Try.func109 #[.pointer (some ⟨g, 0, none⟩), .int .i64 3] ?_; (with_reducible refine (spec_l1Rd_pick.calls k g s0_0 t298 3 t300 t301 w0 _ ?side1 ?side2 A6.out).mono ?_); (case side1 => repeat (first | (with_reducible first | exact HI0.out | apply IsS161.alloc | apply IsS161.drewN | apply IsS161.drew | apply IsS161.set_1 | refine IsS161.far ?_ NB0_280.out _ | refine IsS161.far ?_ NB0_281.out _ | refine IsS161.far ?_ NB0_293.out _ | refine IsS161.far ?_ NB0_299.out _) | exact HI0.out)); (case side2 => repeat (first | (with_reducible first | exact HB.out | apply below_alloc | apply pw_below_drewN | apply below_drew1 | refine below_set ?_ (IsS161.ge HI0.out) | refine below_set ?_ GE280.out | refine below_set ?_ GE281.out | refine below_set ?_ GE293.out | refine below_set ?_ GE299.out) | exact HB.out)); rintro e w28 ⟨rfl, hi, hb, hk⟩; refine ⟨_, rfl, ?_⟩; have n0_ := Aside0.mk (KeepBut.blk hk (g' := gb280) (o := .cells #[.int .i64 0, .slice none 0 0] 41 (0, 0)) (by refine sqt ?_; refine blk_far ?_ NB280_299.out _; refine sqt ?_; refine blk_far ?_ NB280_299.out _; refine sqt ?_; exact BK280.out) NB280_0.out (by simp)); have n1_ := Aside0.mk (KeepBut.blk hk (g' := gb281) (o := .cells #[.int .i64 0, .slice none 0 0] 41 (0, 0)) (by refine sqt ?_; refine blk_far ?_ NB281_299.out _; refine sqt ?_; refine blk_far ?_ NB281_299.out _; refine sqt ?_; exact BK281.out) NB281_0.out (by simp)); have n2_ := Aside0.mk (Kd.R_mono (Kd.R_keep (IsS161.apart (show IsS161 w0 _ g s0_0 t298 from by repeat (first | (with_reducible first | exact HI0.out | apply IsS161.alloc | apply IsS161.drewN | apply IsS161.drew | apply IsS161.set_1 | refine IsS161.far ?_ NB0_280.out _ | refine IsS161.far ?_ NB0_281.out _ | refine IsS161.far ?_ NB0_293.out _ | refine IsS161.far ?_ NB0_299.out _) | exact HI0.out)) (by (with_reducible repeat (first | apply Kd.R_alloc | apply Kd.R_drewN | apply Kd.R_drew)); exact (Kd.R_mono (Kd.R_far (p := ⟨gb299, 1, none⟩) (Kd.R_far (p := ⟨gb299, 0, none⟩) (Kd.R_types HO286.out BK299.out (by decide)) (fun _ hk => hk.2) (.int .i64 t294)) (fun _ hk => hk.2) (.slice Ao27 t295.length co27)) (fun _ h_ => h_.1))) (by decide)) hk (fun _ h => h.2)) (fun _ h => h.1)); have n3_ := Aside0.mk (Kd.R_mono (Kd.R_keep (IsS161.apart (show IsS161 w0 _ g s0_0 t298 from by repeat (first | (with_reducible first | exact HI0.out | apply IsS161.alloc | apply IsS161.drewN | apply IsS161.drew | apply IsS161.set_1 | refine IsS161.far ?_ NB0_280.out _ | refine IsS161.far ?_ NB0_281.out _ | refine IsS161.far ?_ NB0_293.out _ | refine IsS161.far ?_ NB0_299.out _) | exact HI0.out)) (by (with_reducible repeat (first | apply Kd.R_alloc | apply Kd.R_drewN | apply Kd.R_drew)); exact (Kd.R_mono (Kd.R_far (p := ⟨gb299, 1, none⟩) (Kd.R_far (p := ⟨gb299, 0, none⟩) (Kd.R_types HO291.out BK299.out (by decide)) (fun _ hk => hk.2) (.int .i64 t294)) (fun _ hk => hk.2) (.slice Ao27 t295.length co27)) (fun _ h_ => h_.1))) (by decide)) hk (fun _ h => h.2)) (fun _ h => h.1)); have n4_ := Aside0.mk (KeepBut.blk hk (g' := gb293) (o := .cells #[.int .i64 t288, .slice Ao19 t289.length co19] 41 (0, 0)) (by refine sqt ?_; refine blk_far ?_ NB293_299.out _; refine sqt ?_; refine blk_far ?_ NB293_299.out _; refine sqt ?_; exact BK293.out) NB293_0.out (by simp)); have n5_ := Aside0.mk (Kd.R_mono (Kd.R_keep (IsS161.apart (show IsS161 w0 _ g s0_0 t298 from by repeat (first | (with_reducible first | exact HI0.out | apply IsS161.alloc | apply IsS161.drewN | apply IsS161.drew | apply IsS161.set_1 | refine IsS161.far ?_ NB0_280.out _ | refine IsS161.far ?_ NB0_281.out _ | refine IsS161.far ?_ NB0_293.out _ | refine IsS161.far ?_ NB0_299.out _) | exact HI0.out)) (by (with_reducible repeat (first | apply Kd.R_alloc | apply Kd.R_drewN | apply Kd.R_drew)); exact (Kd.R_mono (Kd.R_far (p := ⟨gb299, 1, none⟩) (Kd.R_far (p := ⟨gb299, 0, none⟩) (Kd.R_types HO297.out BK299.out (by decide)) (fun _ hk => hk.2) (.int .i64 t294)) (fun _ hk => hk.2) (.slice Ao27 t295.length co27)) (fun _ h_ => h_.1))) (by decide)) hk (fun _ h => h.2)) (fun _ h => h.1)); have n6_ := Aside0.mk (KeepBut.blk hk (g' := gb299) (o := .cells #[.int .i64 t294, .slice Ao27 t295.length co27] 41 (0, 0)) (by refine sqt ?_; refine blk_put (cs := #[.int .i64 t294, .slice none 0 0]) ?_ 1 _ rfl; refine sqt ?_; refine blk_put (cs := #[.int .i64 0, .slice none 0 0]) ?_ 0 _ rfl; refine sqt ?_; exact BK299.out) NB299_0.out (by simp)); have n7_ := Aside0.mk (KeepBut.trans (by repeat (first | (with_reducible first | exact HK.out | apply KeepBut.set_ | apply keep_drewN | apply keep_drew | apply keep_alloc | refine keep_far ?_ GW280.out _ | refine keep_far ?_ GW281.out _ | refine keep_far ?_ GW293.out _ | refine keep_far ?_ GW299.out _) | exact HK.out)) hk (.inl rfl)); have n8_ := Aside0.mk (hb); have n9_ := Aside0.mk (hi); clear BK280; clear BK281; clear HO286; clear HO291; clear BK293; clear HO297; clear BK299; clear HK; clear HB; clear HI0; have BK280 := n0_; have BK281 := n1_; have HO286 := n2_; have HO291 := n3_; have BK293 := n4_; have HO297 := n5_; have BK299 := n6_; have HK := n7_; have HB := n8_; have HI0 := n9_; clear n0_ n1_ n2_ n3_ n4_ n5_ n6_ n7_ n8_ n9_; (try clear hb); (try clear hb2); (try clear hk); (try clear hi)))
  (try simp only [Act.put, List.setIfInBounds_toArray, List.set_cons_zero, List.set_cons_succ])
  go_cut [] (fun wc => ∃ (kq : Nat) (x1001_6 : Int) (x294001_6 : List Int) (x300000_6 : Int) (x300001_6 : List Int) (u294001 : Value) (u300001 : Value), Aside0 (spec_l11Pair.j1 kq t282 s0_0 x1001_6 t288 x294001_6 x300000_6 x300001_6 = some (r1, r2, r3, r4, r5)) ∧ Aside0 (kq ≤ k) ∧ Aside0 (Kd.R (Kd.int .i64) 3 wc w.heap.size (fun k_ => some k_ ≠ (u300001 : Value).ownBlock) u294001 x294001_6) ∧ Aside0 (Kd.R (Kd.int .i64) 3 wc w.heap.size (fun k_ => some k_ ≠ (u294001 : Value).ownBlock) u300001 x300001_6) ∧ Aside0 (wc.heap[gb280]? = some (.cells #[.int .i64 0, (.slice none 0 0)] 41 (0, 0))) ∧ Aside0 (wc.heap[gb281]? = some (.cells #[.int .i64 0, (.slice none 0 0)] 41 (0, 0))) ∧ Aside0 (wc.heap[gb293]? = some (.cells #[.int .i64 t288, u294001] 41 (0, 0))) ∧ Aside0 (wc.heap[gb299]? = some (.cells #[.int .i64 x300000_6, u300001] 41 (0, 0))) ∧ Aside0 (IsS161 w0 wc g s0_0 x1001_6) ∧ Aside0 (KeepBut w wc g none) ∧ Aside0 (Below w0.heap.size w0 wc))
  case first =>
    have H := HC7.out
    clear HC7
    by_cases c29 : t300 = 0
    · rw [if_pos c29] at H
      have c29b0 : (t300 == 0) = true := beq_iff_eq.mpr c29
      have c29b1 : (t300 != 0) = false := bne_eq_false_iff_eq.mpr c29
      clear c29
      (first | rw [c29b0] | (simp only [i64_w, i32_w]; rw [c29b0]) | skip)
      replace H := Option.bind_eq_some_iff.mp H
      obtain ⟨⟨t302, t303⟩, A300, H⟩ := H
      replace H : (if (t303.length : Int) > 1 then (spec_l11Pair.j0 k t282 (decide (t282 > 0)) s0_0 t301 t288 t289 t302 t303) else (spec_l11Pair.j0 k t282 false s0_0 t301 t288 t289 t302 t303)) = some (r1, r2, r3, r4, r5) := H
      have A30 := Aside0.mk A300
      clear A300
      have HC31 := Aside0.mk H
      clear H
      have hnb32 := NB293_280.out
      have hnc32 := NB280_293.out
      have hnb33 := NB293_281.out
      have hnc33 := NB281_293.out
      have hnb34 := NB293_299.out
      have hnc34 := NB299_293.out
      have hnb35 := NB293_0.out
      have hnc35 := NB0_293.out
      obtain ⟨hcz36_0, hcz36_1, hfz36_0, hfz36_1⟩ := sqc2 BK293
      go_upto_region 7 with (first | ((with_reducible refine gate_callee (f := 113) rfl ?_); refine sqL (some 26) Try.func113 #[.agg #[.int .i64 t288, .slice Ao19 t289.length co19]] ?_; (with_reducible refine (spec_l11Copy.calls k t288 _ _ t289 t302 t303 _ ?side1 ?side2 A30.out).mono ?_); (case side1 => repeat (first | exact (Kd.R_reads' HO291.out).2.2 | (with_reducible refine Kd.C_alloc ?_ _) | (with_reducible refine Kd.C_drewN ?_ _) | (with_reducible refine Kd.C_drew ?_))); (case side2 => exact (Kd.R_reads' HO291.out).2.1); rintro e w37 ⟨v304, rfl, ho0, hb⟩; refine ⟨_, rfl, ?_⟩; have n0_ := Aside0.mk (Kd.R_elder' (by (with_reducible repeat (first | apply Kd.R_alloc | apply Kd.R_drewN | apply Kd.R_drew)); exact HO286.out) (Kd.R_base ho0) hb); have n1_ := Aside0.mk (Kd.R_elder' (by (with_reducible repeat (first | apply Kd.R_alloc | apply Kd.R_drewN | apply Kd.R_drew)); exact HO291.out) (Kd.R_base ho0) hb); have n2_ := Aside0.mk (Kd.R_elder' (by (with_reducible repeat (first | apply Kd.R_alloc | apply Kd.R_drewN | apply Kd.R_drew)); exact HO297.out) (Kd.R_base ho0) hb); have n3_ := Aside0.mk (Kd.R_lower (Kd.R_new' (Kd.R_new' (Kd.R_new' ho0 (Kd.R_lt (by (with_reducible repeat (first | apply Kd.R_alloc | apply Kd.R_drewN | apply Kd.R_drew)); exact HO286.out))) (Kd.R_lt (by (with_reducible repeat (first | apply Kd.R_alloc | apply Kd.R_drewN | apply Kd.R_drew)); exact HO291.out))) (Kd.R_lt (by (with_reducible repeat (first | apply Kd.R_alloc | apply Kd.R_drewN | apply Kd.R_drew)); exact HO297.out))) (keep_size (w := w) (g := g) (row := none) (by repeat (first | (with_reducible first | exact HK.out | apply KeepBut.set_ | apply keep_drewN | apply keep_drew | apply keep_alloc | refine keep_far ?_ GW280.out _ | refine keep_far ?_ GW281.out _ | refine keep_far ?_ GW293.out _ | refine keep_far ?_ GW299.out _) | exact HK.out)))); have n4_ := Aside0.mk (IsS161.below (by repeat (first | (with_reducible first | exact HI0.out | apply IsS161.alloc | apply IsS161.drewN | apply IsS161.drew | apply IsS161.set_1 | refine IsS161.far ?_ NB0_280.out _ | refine IsS161.far ?_ NB0_281.out _ | refine IsS161.far ?_ NB0_293.out _ | refine IsS161.far ?_ NB0_299.out _) | exact HI0.out)) hb); have n5_ := sqb BK280 hb; have n6_ := sqb BK281 hb; have n7_ := sqb BK293 hb; have n8_ := sqb BK299 hb; have n9_ := Aside0.mk (KeepBut.trans (by repeat (first | (with_reducible first | exact HK.out | apply KeepBut.set_ | apply keep_drewN | apply keep_drew | apply keep_alloc | refine keep_far ?_ GW280.out _ | refine keep_far ?_ GW281.out _ | refine keep_far ?_ GW293.out _ | refine keep_far ?_ GW299.out _) | exact HK.out)) (KeepBut.of_below hb g none) (.inl rfl)); have n10_ := Aside0.mk (below_step (by repeat (first | (with_reducible first | exact HB.out | apply below_alloc | apply pw_below_drewN | apply below_drew1 | refine below_set ?_ (IsS161.ge HI0.out) | refine below_set ?_ GE280.out | refine below_set ?_ GE281.out | refine below_set ?_ GE293.out | refine below_set ?_ GE299.out) | exact HB.out)) hb); clear HO286; clear HO291; clear HO297; clear HI0; clear BK280; clear BK281; clear BK293; clear BK299; clear HK; clear HB; have HO286 := n0_; have HO291 := n1_; have HO297 := n2_; have HO305 := n3_; have HI0 := n4_; have BK280 := n5_; have BK281 := n6_; have BK293 := n7_; have BK299 := n8_; have HK := n9_; have HB := n10_; clear n0_ n1_ n2_ n3_ n4_ n5_ n6_ n7_ n8_ n9_ n10_; (try clear hb); (try clear hb2); (try clear hk); (try clear hi); (try clear ho0); have hnb38 := NB299_280.out; have hnc38 := NB280_299.out; have hnb39 := NB299_281.out; have hnc39 := NB281_299.out; have hnb40 := NB299_0.out; have hnc40 := NB0_299.out; obtain ⟨hcz41_0, hcz41_1, hfz41_0, hfz41_1⟩ := sqc2 BK299; obtain ⟨Ao42, co42, eo42⟩ := Kd.R_slice HO305.out; subst eo42))
      (try simp only [Act.put, List.setIfInBounds_toArray, List.set_cons_zero, List.set_cons_succ])
      go_cut [34] (fun v34 wc => ∃ (kq : Nat) (x34_30 : Bool), v34 = .bool x34_30 ∧ Aside0 (spec_l11Pair.j0 kq t282 x34_30 s0_0 t301 t288 t289 t302 t303 = some (r1, r2, r3, r4, r5)) ∧ Aside0 (kq ≤ k) ∧ Aside0 (Kd.R (Kd.int .i64) 3 wc w.heap.size (fun k_ => some k_ ≠ ((.slice Ao42 t303.length co42) : Value).ownBlock) (.slice Ao19 t289.length co19) t289) ∧ Aside0 (Kd.R (Kd.int .i64) 3 wc w.heap.size (fun k_ => some k_ ≠ ((.slice Ao19 t289.length co19) : Value).ownBlock) (.slice Ao42 t303.length co42) t303) ∧ Aside0 (wc.heap[gb280]? = some (.cells #[.int .i64 0, (.slice none 0 0)] 41 (0, 0))) ∧ Aside0 (wc.heap[gb281]? = some (.cells #[.int .i64 0, (.slice none 0 0)] 41 (0, 0))) ∧ Aside0 (wc.heap[gb293]? = some (.cells #[.int .i64 t288, (.slice Ao19 t289.length co19)] 41 (0, 0))) ∧ Aside0 (wc.heap[gb299]? = some (.cells #[.int .i64 t302, (.slice Ao42 t303.length co42)] 41 (0, 0))) ∧ Aside0 (IsS161 w0 wc g s0_0 t301) ∧ Aside0 (KeepBut w wc g none) ∧ Aside0 (Below w0.heap.size w0 wc))
      case first =>
        have H := HC31.out
        clear HC31
        by_cases c43 : (t303.length : Int) > 1
        · rw [if_pos c43] at H
          have c43b0 : decide (1 < (t303.length : Int)) = true := decide_eq_true c43
          have c43b1 : decide (1 < t303.length) = true := decide_eq_true (by omega)
          clear c43
          (first | rw [c43b0] | (simp only [i64_w, i32_w]; rw [c43b0]) | skip)
          have H' := Aside0.mk H
          clear H
          have hnb44 := NB299_280.out
          have hnc44 := NB280_299.out
          have hnb45 := NB299_281.out
          have hnc45 := NB281_299.out
          have hnb46 := NB299_293.out
          have hnc46 := NB293_299.out
          have hnb47 := NB299_0.out
          have hnc47 := NB0_299.out
          obtain ⟨hcz48_0, hcz48_1, hfz48_0, hfz48_1⟩ := sqc2 BK299
          go_wp2
          go_meet
          case rel => exact ⟨_, (decide (t282 > 0)), (by first | rfl | (simp; done) | (simp [*]; done)), H', ⟨by first | omega | exact Nat.le_refl _⟩, ⟨by (with_reducible repeat (first | apply Kd.R_alloc | apply Kd.R_drewN | apply Kd.R_drew)); exact Kd.R_mono (Kd.R_far (p := ⟨gb299, 1, none⟩) (Kd.R_far (p := ⟨gb299, 0, none⟩) (Kd.R_types HO291.out BK299.out (by decide)) (fun _ hk => hk.2) (.int .i64 t302)) (fun _ hk => hk.2) (.slice Ao42 t303.length co42)) (fun _ hk => hk.1.2)⟩, ⟨by (with_reducible repeat (first | apply Kd.R_alloc | apply Kd.R_drewN | apply Kd.R_drew)); exact Kd.R_mono (Kd.R_far (p := ⟨gb299, 1, none⟩) (Kd.R_far (p := ⟨gb299, 0, none⟩) (Kd.R_types HO305.out BK299.out (by decide)) (fun _ hk => hk.2) (.int .i64 t302)) (fun _ hk => hk.2) (.slice Ao42 t303.length co42)) (fun _ hk => hk.1.1.2)⟩, ⟨by refine sqt ?_; refine blk_far ?_ NB280_299.out _; refine sqt ?_; refine blk_far ?_ NB280_299.out _; refine sqt ?_; exact BK280.out⟩, ⟨by refine sqt ?_; refine blk_far ?_ NB281_299.out _; refine sqt ?_; refine blk_far ?_ NB281_299.out _; refine sqt ?_; exact BK281.out⟩, ⟨by refine sqt ?_; refine blk_far ?_ NB293_299.out _; refine sqt ?_; refine blk_far ?_ NB293_299.out _; refine sqt ?_; exact BK293.out⟩, ⟨by refine sqt ?_; refine blk_put (cs := #[.int .i64 t302, .slice Ao27 t295.length co27]) ?_ 1 _ rfl; refine sqt ?_; refine blk_put (cs := #[.int .i64 t294, .slice Ao27 t295.length co27]) ?_ 0 _ rfl; refine sqt ?_; exact BK299.out⟩, ⟨by repeat (first | (with_reducible first | exact HI0.out | apply IsS161.alloc | apply IsS161.drewN | apply IsS161.drew | apply IsS161.set_1 | refine IsS161.far ?_ NB0_280.out _ | refine IsS161.far ?_ NB0_281.out _ | refine IsS161.far ?_ NB0_293.out _ | refine IsS161.far ?_ NB0_299.out _) | exact HI0.out)⟩, ⟨by repeat (first | (with_reducible first | exact HK.out | apply KeepBut.set_ | apply keep_drewN | apply keep_drew | apply keep_alloc | refine keep_far ?_ GW280.out _ | refine keep_far ?_ GW281.out _ | refine keep_far ?_ GW293.out _ | refine keep_far ?_ GW299.out _) | exact HK.out)⟩, ⟨by repeat (first | (with_reducible first | exact HB.out | apply below_alloc | apply pw_below_drewN | apply below_drew1 | refine below_set ?_ (IsS161.ge HI0.out) | refine below_set ?_ GE280.out | refine below_set ?_ GE281.out | refine below_set ?_ GE293.out | refine below_set ?_ GE299.out) | exact HB.out)⟩⟩
        · rw [if_neg c43] at H
          have c43b0 : decide (1 < (t303.length : Int)) = false := decide_eq_false c43
          have c43b1 : decide (1 < t303.length) = false := decide_eq_false (by omega)
          clear c43
          (first | rw [c43b0] | (simp only [i64_w, i32_w]; rw [c43b0]) | skip)
          have H' := Aside0.mk H
          clear H
          have hnb49 := NB299_280.out
          have hnc49 := NB280_299.out
          have hnb50 := NB299_281.out
          have hnc50 := NB281_299.out
          have hnb51 := NB299_293.out
          have hnc51 := NB293_299.out
          have hnb52 := NB299_0.out
          have hnc52 := NB0_299.out
          obtain ⟨hcz53_0, hcz53_1, hfz53_0, hfz53_1⟩ := sqc2 BK299
          go_wp2
          go_meet
          case rel => exact ⟨_, (false), (by first | rfl | (simp; done) | (simp [*]; done)), H', ⟨by first | omega | exact Nat.le_refl _⟩, ⟨by (with_reducible repeat (first | apply Kd.R_alloc | apply Kd.R_drewN | apply Kd.R_drew)); exact Kd.R_mono (Kd.R_far (p := ⟨gb299, 1, none⟩) (Kd.R_far (p := ⟨gb299, 0, none⟩) (Kd.R_types HO291.out BK299.out (by decide)) (fun _ hk => hk.2) (.int .i64 t302)) (fun _ hk => hk.2) (.slice Ao42 t303.length co42)) (fun _ hk => hk.1.2)⟩, ⟨by (with_reducible repeat (first | apply Kd.R_alloc | apply Kd.R_drewN | apply Kd.R_drew)); exact Kd.R_mono (Kd.R_far (p := ⟨gb299, 1, none⟩) (Kd.R_far (p := ⟨gb299, 0, none⟩) (Kd.R_types HO305.out BK299.out (by decide)) (fun _ hk => hk.2) (.int .i64 t302)) (fun _ hk => hk.2) (.slice Ao42 t303.length co42)) (fun _ hk => hk.1.1.2)⟩, ⟨by refine sqt ?_; refine blk_far ?_ NB280_299.out _; refine sqt ?_; refine blk_far ?_ NB280_299.out _; refine sqt ?_; exact BK280.out⟩, ⟨by refine sqt ?_; refine blk_far ?_ NB281_299.out _; refine sqt ?_; refine blk_far ?_ NB281_299.out _; refine sqt ?_; exact BK281.out⟩, ⟨by refine sqt ?_; refine blk_far ?_ NB293_299.out _; refine sqt ?_; refine blk_far ?_ NB293_299.out _; refine sqt ?_; exact BK293.out⟩, ⟨by refine sqt ?_; refine blk_put (cs := #[.int .i64 t302, .slice Ao27 t295.length co27]) ?_ 1 _ rfl; refine sqt ?_; refine blk_put (cs := #[.int .i64 t294, .slice Ao27 t295.length co27]) ?_ 0 _ rfl; refine sqt ?_; exact BK299.out⟩, ⟨by repeat (first | (with_reducible first | exact HI0.out | apply IsS161.alloc | apply IsS161.drewN | apply IsS161.drew | apply IsS161.set_1 | refine IsS161.far ?_ NB0_280.out _ | refine IsS161.far ?_ NB0_281.out _ | refine IsS161.far ?_ NB0_293.out _ | refine IsS161.far ?_ NB0_299.out _) | exact HI0.out)⟩, ⟨by repeat (first | (with_reducible first | exact HK.out | apply KeepBut.set_ | apply keep_drewN | apply keep_drew | apply keep_alloc | refine keep_far ?_ GW280.out _ | refine keep_far ?_ GW281.out _ | refine keep_far ?_ GW293.out _ | refine keep_far ?_ GW299.out _) | exact HK.out)⟩, ⟨by repeat (first | (with_reducible first | exact HB.out | apply below_alloc | apply pw_below_drewN | apply below_drew1 | refine below_set ?_ (IsS161.ge HI0.out) | refine below_set ?_ GE280.out | refine below_set ?_ GE281.out | refine below_set ?_ GE293.out | refine below_set ?_ GE299.out) | exact HB.out)⟩⟩
      case rest =>
        clear HC31
        try clear c29
        try clear c29b0
        try clear c29b1
        try clear hcz18_0
        try clear hcz18_1
        try clear hcz26_0
        try clear hcz26_1
        try clear hcz36_0
        try clear hcz36_1
        try clear hcz41_0
        try clear hcz41_1
        try clear hfz18_0
        try clear hfz18_1
        try clear hfz26_0
        try clear hfz26_1
        try clear hfz36_0
        try clear hfz36_1
        try clear hfz41_0
        try clear hfz41_1
        obtain ⟨kq, x34_30, rfl, HA, HJ30, HO_294001, HO_300001, BK280, BK281, BK293, BK299, HI0, HK, HB⟩ := hcut
        cases kq with
        | zero => exact absurd HA.out (by simp [spec_l11Pair.j0])
        | succ kj30 =>
          have H := HA.out
          clear HA
          simp only [spec_l11Pair.j0] at H
          by_cases c54 : x34_30 = true
          · subst c54
            have H1 : ((spec_l1Rd_pick.f kj30 s0_0 t301 t282).bind fun bt306 => ((spec_l1Rd_pick.f kj30 s0_0 bt306.2 12).bind fun bt308 => ((spec_l11Put.f t302 t303 (wrap64 (1 + bt306.1)) 0 (wrap64 (bt308.1 - 2))).bind fun t310 => (spec_l11Pair.j1 kj30 t282 s0_0 bt308.2 t288 t289 t302 t310)))) = some (r1, r2, r3, r4, r5) := by rw [if_pos rfl] at H; exact H
            clear H
            have H := H1
            clear H1
            replace H := Option.bind_eq_some_iff.mp H
            obtain ⟨⟨t306, t307⟩, A550, H⟩ := H
            replace H : ((spec_l1Rd_pick.f kj30 s0_0 t307 12).bind fun bt308 => ((spec_l11Put.f t302 t303 (wrap64 (1 + t306)) 0 (wrap64 (bt308.1 - 2))).bind fun t310 => (spec_l11Pair.j1 kj30 t282 s0_0 bt308.2 t288 t289 t302 t310))) = some (r1, r2, r3, r4, r5) := H
            have A55 := Aside0.mk A550
            clear A550
            replace H := Option.bind_eq_some_iff.mp H
            obtain ⟨⟨t308, t309⟩, A560, H⟩ := H
            replace H : ((spec_l11Put.f t302 t303 (wrap64 (1 + t306)) 0 (wrap64 (t308 - 2))).bind fun t310 => (spec_l11Pair.j1 kj30 t282 s0_0 t309 t288 t289 t302 t310)) = some (r1, r2, r3, r4, r5) := H
            have A56 := Aside0.mk A560
            clear A560
            replace H := Option.bind_eq_some_iff.mp H
            obtain ⟨t310, A570, H⟩ := H
            replace H : (spec_l11Pair.j1 kj30 t282 s0_0 t309 t288 t289 t302 t310) = some (r1, r2, r3, r4, r5) := H
            have A57 := Aside0.mk A570
            clear A570
            have H' := Aside0.mk H
            clear H
            try go_wp2_with (first | ((with_reducible refine gate_callee (f := 109) rfl ?_); refine sqL (some 37) Try.func109 #[.pointer (some ⟨g, 0, none⟩), .int .i64 t282] ?_; (with_reducible refine (spec_l1Rd_pick.calls kj30 g s0_0 t301 t282 t306 t307 w0 _ ?side1 ?side2 A55.out).mono ?_); (case side1 => repeat (first | (with_reducible first | exact HI0.out | apply IsS161.alloc | apply IsS161.drewN | apply IsS161.drew | apply IsS161.set_1 | refine IsS161.far ?_ NB0_280.out _ | refine IsS161.far ?_ NB0_281.out _ | refine IsS161.far ?_ NB0_293.out _ | refine IsS161.far ?_ NB0_299.out _) | exact HI0.out)); (case side2 => repeat (first | (with_reducible first | exact HB.out | apply below_alloc | apply pw_below_drewN | apply below_drew1 | refine below_set ?_ (IsS161.ge HI0.out) | refine below_set ?_ GE280.out | refine below_set ?_ GE281.out | refine below_set ?_ GE293.out | refine below_set ?_ GE299.out) | exact HB.out)); rintro e w58 ⟨rfl, hi, hb, hk⟩; refine ⟨_, rfl, ?_⟩; have n0_ := Aside0.mk (Kd.R_mono (Kd.R_keep (IsS161.apart (show IsS161 w0 _ g s0_0 t301 from by repeat (first | (with_reducible first | exact HI0.out | apply IsS161.alloc | apply IsS161.drewN | apply IsS161.drew | apply IsS161.set_1 | refine IsS161.far ?_ NB0_280.out _ | refine IsS161.far ?_ NB0_281.out _ | refine IsS161.far ?_ NB0_293.out _ | refine IsS161.far ?_ NB0_299.out _) | exact HI0.out)) (by (with_reducible repeat (first | apply Kd.R_alloc | apply Kd.R_drewN | apply Kd.R_drew)); exact HO_294001.out) (by decide)) hk (fun _ h => h.2)) (fun _ h => h.1)); have n1_ := Aside0.mk (Kd.R_mono (Kd.R_keep (IsS161.apart (show IsS161 w0 _ g s0_0 t301 from by repeat (first | (with_reducible first | exact HI0.out | apply IsS161.alloc | apply IsS161.drewN | apply IsS161.drew | apply IsS161.set_1 | refine IsS161.far ?_ NB0_280.out _ | refine IsS161.far ?_ NB0_281.out _ | refine IsS161.far ?_ NB0_293.out _ | refine IsS161.far ?_ NB0_299.out _) | exact HI0.out)) (by (with_reducible repeat (first | apply Kd.R_alloc | apply Kd.R_drewN | apply Kd.R_drew)); exact HO_300001.out) (by decide)) hk (fun _ h => h.2)) (fun _ h => h.1)); have n2_ := Aside0.mk (KeepBut.blk hk (g' := gb280) (o := .cells #[.int .i64 0, .slice none 0 0] 41 (0, 0)) (by refine sqt ?_; exact BK280.out) NB280_0.out (by simp)); have n3_ := Aside0.mk (KeepBut.blk hk (g' := gb281) (o := .cells #[.int .i64 0, .slice none 0 0] 41 (0, 0)) (by refine sqt ?_; exact BK281.out) NB281_0.out (by simp)); have n4_ := Aside0.mk (KeepBut.blk hk (g' := gb293) (o := .cells #[.int .i64 t288, .slice Ao19 t289.length co19] 41 (0, 0)) (by refine sqt ?_; exact BK293.out) NB293_0.out (by simp)); have n5_ := Aside0.mk (KeepBut.blk hk (g' := gb299) (o := .cells #[.int .i64 t302, .slice Ao42 t303.length co42] 41 (0, 0)) (by refine sqt ?_; exact BK299.out) NB299_0.out (by simp)); have n6_ := Aside0.mk (KeepBut.trans (by repeat (first | (with_reducible first | exact HK.out | apply KeepBut.set_ | apply keep_drewN | apply keep_drew | apply keep_alloc | refine keep_far ?_ GW280.out _ | refine keep_far ?_ GW281.out _ | refine keep_far ?_ GW293.out _ | refine keep_far ?_ GW299.out _) | exact HK.out)) hk (.inl rfl)); have n7_ := Aside0.mk (hb); have n8_ := Aside0.mk (hi); clear HO_294001; clear HO_300001; clear BK280; clear BK281; clear BK293; clear BK299; clear HK; clear HB; clear HI0; have HO_294001 := n0_; have HO_300001 := n1_; have BK280 := n2_; have BK281 := n3_; have BK293 := n4_; have BK299 := n5_; have HK := n6_; have HB := n7_; have HI0 := n8_; clear n0_ n1_ n2_ n3_ n4_ n5_ n6_ n7_ n8_; (try clear hb); (try clear hb2); (try clear hk); (try clear hi)))
            replace HO_294001 := Aside0.mk (Kd.R_drew HO_294001.out)
            replace HO_300001 := Aside0.mk (Kd.R_drew HO_300001.out)
            replace BK280 := Aside0.mk (blk_drew BK280.out)
            replace BK281 := Aside0.mk (blk_drew BK281.out)
            replace BK293 := Aside0.mk (blk_drew BK293.out)
            replace BK299 := Aside0.mk (blk_drew BK299.out)
            replace HI0 := Aside0.mk (IsS161.drew HI0.out)
            replace HK := Aside0.mk (keep_drew HK.out)
            replace HB := Aside0.mk (below_drew1 HB.out)
            refine start_ (n := 6) (S := fun w' => w'.cell? ⟨gb299, 0, none⟩ = some (.int .i64 t302) ∧ w'.cell? ⟨gb299, 1, none⟩ = some (.slice Ao42 t303.length co42)) (ds := []) #[false, false, false, false, false, false] (by kernel_rfl) rfl rfl ⟨(blk_cell BK299.out 0).trans rfl, (blk_cell BK299.out 1).trans rfl⟩ (fun hHeld => ?_)
            generalize w58.drew = w59 at HO_294001 HO_300001 BK280 BK281 BK293 BK299 HI0 HK HB hHeld ⊢
            refine pure_ (i := 1) (N := some 40) (v := ?_) (a' := ?_) #[false, true, false, false, false, false] rfl rfl (by kernel_rfl) (fun _ _ _ h => h) (Or.inl ⟨by rfl, ?_⟩) ?_ ?_
            rotate_left
            · intro w'
              go_simp
              with_reducible rfl
            rotate_left
            · simp only [Act.put, List.setIfInBounds_toArray, List.set_cons_zero, List.set_cons_succ, i64_w, i32_w]
              rfl
            refine pure_ (i := 2) (N := some 41) (v := ?_) (a' := ?_) #[false, true, true, false, false, false] rfl rfl (by kernel_rfl) (fun _ _ _ h => h) (Or.inl ⟨by rfl, ?_⟩) ?_ ?_
            rotate_left
            · intro w'
              go_simp
              with_reducible rfl
            rotate_left
            · simp only [Act.put, List.setIfInBounds_toArray, List.set_cons_zero, List.set_cons_succ, i64_w, i32_w]
              rfl
            refine take_ (i := 0) (N := some 39) (v := ?_) (a' := ?_) #[true, true, true, false, false, false] rfl rfl (by kernel_rfl) (fun _ _ _ h => h) (Or.inl ⟨by rfl, ?_⟩) hHeld ?_ ?_
            rotate_left
            · rintro w' ⟨s0, s1⟩
              go_simp
              with_reducible rfl
            rotate_left
            · simp only [Act.put, List.setIfInBounds_toArray, List.set_cons_zero, List.set_cons_succ, i64_w, i32_w]
              rfl
            refine one_ (i := 3) (N := some 42) #[true, true, true, true, false, false] rfl rfl (by kernel_rfl) (by decide) (fun K hK => ?_)
            refine sqG Try.func109 #[.pointer (some ⟨g, 0, none⟩), .int .i64 12] ?_
            with_reducible refine (spec_l1Rd_pick.calls kj30 g s0_0 t307 12 t308 t309 w0 _ ?side1 ?side2 A56.out).mono ?_
            (case side1 => repeat (first | (with_reducible first | exact HI0.out | apply IsS161.alloc | apply IsS161.drewN | apply IsS161.drew | apply IsS161.set_1 | refine IsS161.far ?_ NB0_280.out _ | refine IsS161.far ?_ NB0_281.out _ | refine IsS161.far ?_ NB0_293.out _ | refine IsS161.far ?_ NB0_299.out _) | exact HI0.out))
            (case side2 => repeat (first | (with_reducible first | exact HB.out | apply below_alloc | apply pw_below_drewN | apply below_drew1 | refine below_set ?_ (IsS161.ge HI0.out) | refine below_set ?_ GE280.out | refine below_set ?_ GE281.out | refine below_set ?_ GE293.out | refine below_set ?_ GE299.out) | exact HB.out))
            rintro e w60 ⟨rfl, hi, hb, hk⟩
            refine ⟨_, rfl, ?_⟩
            have n0_ := Aside0.mk (Kd.R_mono (Kd.R_keep (IsS161.apart (show IsS161 w0 _ g s0_0 t307 from by repeat (first | (with_reducible first | exact HI0.out | apply IsS161.alloc | apply IsS161.drewN | apply IsS161.drew | apply IsS161.set_1 | refine IsS161.far ?_ NB0_280.out _ | refine IsS161.far ?_ NB0_281.out _ | refine IsS161.far ?_ NB0_293.out _ | refine IsS161.far ?_ NB0_299.out _) | exact HI0.out)) (by (with_reducible repeat (first | apply Kd.R_alloc | apply Kd.R_drewN | apply Kd.R_drew)); exact HO_294001.out) (by decide)) hk (fun _ h => h.2)) (fun _ h => h.1))
            have n1_ := Aside0.mk (Kd.R_mono (Kd.R_keep (IsS161.apart (show IsS161 w0 _ g s0_0 t307 from by repeat (first | (with_reducible first | exact HI0.out | apply IsS161.alloc | apply IsS161.drewN | apply IsS161.drew | apply IsS161.set_1 | refine IsS161.far ?_ NB0_280.out _ | refine IsS161.far ?_ NB0_281.out _ | refine IsS161.far ?_ NB0_293.out _ | refine IsS161.far ?_ NB0_299.out _) | exact HI0.out)) (by (with_reducible repeat (first | apply Kd.R_alloc | apply Kd.R_drewN | apply Kd.R_drew)); exact HO_300001.out) (by decide)) hk (fun _ h => h.2)) (fun _ h => h.1))
            have n2_ := Aside0.mk (KeepBut.blk hk (g' := gb280) (o := .cells #[.int .i64 0, .slice none 0 0] 41 (0, 0)) (by refine sqt ?_; exact BK280.out) NB280_0.out (by simp))
            have n3_ := Aside0.mk (KeepBut.blk hk (g' := gb281) (o := .cells #[.int .i64 0, .slice none 0 0] 41 (0, 0)) (by refine sqt ?_; exact BK281.out) NB281_0.out (by simp))
            have n4_ := Aside0.mk (KeepBut.blk hk (g' := gb293) (o := .cells #[.int .i64 t288, .slice Ao19 t289.length co19] 41 (0, 0)) (by refine sqt ?_; exact BK293.out) NB293_0.out (by simp))
            have n5_ := Aside0.mk (KeepBut.blk hk (g' := gb299) (o := .cells #[.int .i64 t302, .slice Ao42 t303.length co42] 41 (0, 0)) (by refine sqt ?_; exact BK299.out) NB299_0.out (by simp))
            have n6_ := Aside0.mk (KeepBut.trans (by repeat (first | (with_reducible first | exact HK.out | apply KeepBut.set_ | apply keep_drewN | apply keep_drew | apply keep_alloc | refine keep_far ?_ GW280.out _ | refine keep_far ?_ GW281.out _ | refine keep_far ?_ GW293.out _ | refine keep_far ?_ GW299.out _) | exact HK.out)) hk (.inl rfl))
            have n7_ := Aside0.mk (hb)
            have n8_ := Aside0.mk (hi)
            clear HO_294001
            clear HO_300001
            clear BK280
            clear BK281
            clear BK293
            clear BK299
            clear HK
            clear HB
            clear HI0
            have HO_294001 := n0_
            have HO_300001 := n1_
            have BK280 := n2_
            have BK281 := n3_
            have BK293 := n4_
            have BK299 := n5_
            have HK := n6_
            have HB := n7_
            have HI0 := n8_
            clear n0_ n1_ n2_ n3_ n4_ n5_ n6_ n7_ n8_
            (try clear hb)
            (try clear hb2)
            (try clear hk)
            (try clear hi)
            refine hK.out _ _ sqz (fun hHeld => ?_)
            clear hK K
            refine sqnm ?_
            refine pure_ (i := 4) (N := some 43) (v := ?_) (a' := ?_) #[true, true, true, true, true, false] rfl rfl (by kernel_rfl) (fun _ _ _ h => h) (Or.inl ⟨by rfl, ?_⟩) ?_ ?_
            rotate_left
            · intro w'
              go_simp
              with_reducible rfl
            rotate_left
            · simp only [Act.put, List.setIfInBounds_toArray, List.set_cons_zero, List.set_cons_succ, i64_w, i32_w]
              rfl
            refine one_ (i := 5) (N := some 44) #[true, true, true, true, true, true] rfl rfl (by kernel_rfl) (by decide) (fun K hK => ?_)
            refine sqG Try.func116 #[.agg #[.int .i64 t302, .slice Ao42 t303.length co42], .int .i64 (wrap64 (1 + t306)), .int .i64 0, .int .i64 (wrap64 (t308 - 2))] ?_
            with_reducible refine (spec_l11Put.calls t302 (fun k_ => some k_ = (.slice Ao42 t303.length co42 : Value).ownBlock) (.slice Ao42 t303.length co42) t303 (wrap64 (1 + t306)) 0 (wrap64 (t308 - 2)) t310 w0 _ ?side1 ?side2 A57.out).mono ?_
            (case side1 => repeat (first | (with_reducible first | exact HB.out | apply below_alloc | apply pw_below_drewN | apply below_drew1 | refine below_set ?_ (IsS161.ge HI0.out) | refine below_set ?_ GE280.out | refine below_set ?_ GE281.out | refine below_set ?_ GE293.out | refine below_set ?_ GE299.out) | exact HB.out))
            (case side2 => exact Kd.R_lower (Kd.R_tight rfl HO_300001.out) HL.out)
            rintro e w61 ⟨rfl, hy0, hb, hkp⟩
            refine ⟨_, rfl, ?_⟩
            have n0_ := Aside0.mk (Kd.R_mono (ok' := fun k_ => some k_ ≠ (.slice Ao42 t303.length co42 : Value).ownBlock) (Kd.R_keptB (HO_294001.out) hkp (fun k_ hk_ hs_ => (hk_) hs_)) (fun k_ hk_ => hk_.1))
            have n1_ := Aside0.mk (Kd.R_reok rfl (Kd.R_raise (d := (Kd.int .i64)) (b := w0.heap.size) (b' := w.heap.size) (fun _ _ _ _ h_ => h_) hy0 (fun k_ e_ => Or.elim (hy0.1 k_ e_) (fun hs_ => (fun e_ => Kd.R_base HO_300001.out k_ e_.symm) hs_) (fun hn_ => Nat.le_trans (keep_size (w := w) (g := g) (row := none) (by repeat (first | (with_reducible first | exact HK.out | apply KeepBut.set_ | apply keep_drewN | apply keep_drew | apply keep_alloc | refine keep_far ?_ GW280.out _ | refine keep_far ?_ GW281.out _ | refine keep_far ?_ GW293.out _ | refine keep_far ?_ GW299.out _) | exact HK.out))) hn_))) (fun k_ e_ => HO_300001.out.1 k_ e_))
            have n2_ := Aside0.mk (blk_kept (by refine sqt ?_; exact BK280.out) hkp (fun hs_ => (fun e_ => (Kd.R_ne HO_300001.out BK280.out (by decide)) e_) hs_))
            have n3_ := Aside0.mk (blk_kept (by refine sqt ?_; exact BK281.out) hkp (fun hs_ => (fun e_ => (Kd.R_ne HO_300001.out BK281.out (by decide)) e_) hs_))
            have n4_ := Aside0.mk (blk_kept (by refine sqt ?_; exact BK293.out) hkp (fun hs_ => (fun e_ => (Kd.R_ne HO_300001.out BK293.out (by decide)) e_) hs_))
            have n5_ := Aside0.mk (blk_kept (by refine sqt ?_; exact BK299.out) hkp (fun hs_ => (fun e_ => (Kd.R_ne HO_300001.out BK299.out (by decide)) e_) hs_))
            have n6_ := Aside0.mk (IsS161.kept (by repeat (first | (with_reducible first | exact HI0.out | apply IsS161.alloc | apply IsS161.drewN | apply IsS161.drew | apply IsS161.set_1 | refine IsS161.far ?_ NB0_280.out _ | refine IsS161.far ?_ NB0_281.out _ | refine IsS161.far ?_ NB0_293.out _ | refine IsS161.far ?_ NB0_299.out _) | exact HI0.out)) hkp (fun hs_ => (fun e_ => (IsS161.own_ne HI0.out HO_300001.out (by decide)) e_) hs_))
            have n7_ := Aside0.mk (Kept.keepG (by repeat (first | (with_reducible first | exact HK.out | apply KeepBut.set_ | apply keep_drewN | apply keep_drew | apply keep_alloc | refine keep_far ?_ GW280.out _ | refine keep_far ?_ GW281.out _ | refine keep_far ?_ GW293.out _ | refine keep_far ?_ GW299.out _) | exact HK.out)) hkp (fun k_ hs_ => (fun e_ => .inr (Kd.R_base HO_300001.out k_ e_.symm)) hs_))
            have n8_ := Aside0.mk (hb)
            clear HO_294001
            clear HO_300001
            clear BK280
            clear BK281
            clear BK293
            clear BK299
            clear HI0
            clear HK
            clear HB
            have HO_294001 := n0_
            have HO_300001 := n1_
            have BK280 := n2_
            have BK281 := n3_
            have BK293 := n4_
            have BK299 := n5_
            have HI0 := n6_
            have HK := n7_
            have HB := n8_
            clear n0_ n1_ n2_ n3_ n4_ n5_ n6_ n7_ n8_
            (try clear hb)
            (try clear hkp)
            (try clear hy0)
            refine hK.out _ _ sqz (fun hHeld => ?_)
            clear hK K
            refine sqnm ?_
            refine done_ (by kernel_rfl) ?_
            try go_wp2
            go_meet
            case rel => exact ⟨_, (t309), (t289), (t302), (t310), (.slice Ao19 t289.length co19), (.slice Ao42 t303.length co42), H', ⟨by have := HJ30.out; first | omega | exact Nat.le_refl _⟩, ⟨by (with_reducible repeat (first | apply Kd.R_alloc | apply Kd.R_drewN | apply Kd.R_drew)); exact HO_294001.out⟩, ⟨by (with_reducible repeat (first | apply Kd.R_alloc | apply Kd.R_drewN | apply Kd.R_drew)); exact HO_300001.out⟩, sqk BK280, sqk BK281, sqk BK293, sqk BK299, ⟨by repeat (first | (with_reducible first | exact HI0.out | apply IsS161.alloc | apply IsS161.drewN | apply IsS161.drew | apply IsS161.set_1 | refine IsS161.far ?_ NB0_280.out _ | refine IsS161.far ?_ NB0_281.out _ | refine IsS161.far ?_ NB0_293.out _ | refine IsS161.far ?_ NB0_299.out _) | exact HI0.out)⟩, ⟨by repeat (first | (with_reducible first | exact HK.out | apply KeepBut.set_ | apply keep_drewN | apply keep_drew | apply keep_alloc | refine keep_far ?_ GW280.out _ | refine keep_far ?_ GW281.out _ | refine keep_far ?_ GW293.out _ | refine keep_far ?_ GW299.out _) | exact HK.out)⟩, ⟨by repeat (first | (with_reducible first | exact HB.out | apply below_alloc | apply pw_below_drewN | apply below_drew1 | refine below_set ?_ (IsS161.ge HI0.out) | refine below_set ?_ GE280.out | refine below_set ?_ GE281.out | refine below_set ?_ GE293.out | refine below_set ?_ GE299.out) | exact HB.out)⟩⟩
          · replace c54 := Bool.eq_false_iff.mpr c54
            subst c54
            have H1 : (spec_l11Pair.j1 kj30 t282 s0_0 t301 t288 t289 t302 t303) = some (r1, r2, r3, r4, r5) := by rw [if_neg (show ¬ (false = true) by decide)] at H; exact H
            clear H
            have H := H1
            clear H1
            have H' := Aside0.mk H
            clear H
            go_wp2
            go_meet
            case rel => exact ⟨_, (t301), (t289), (t302), (t303), (.slice Ao19 t289.length co19), (.slice Ao42 t303.length co42), H', ⟨by have := HJ30.out; first | omega | exact Nat.le_refl _⟩, ⟨by (with_reducible repeat (first | apply Kd.R_alloc | apply Kd.R_drewN | apply Kd.R_drew)); exact HO_294001.out⟩, ⟨by (with_reducible repeat (first | apply Kd.R_alloc | apply Kd.R_drewN | apply Kd.R_drew)); exact HO_300001.out⟩, sqk BK280, sqk BK281, sqk BK293, sqk BK299, ⟨by repeat (first | (with_reducible first | exact HI0.out | apply IsS161.alloc | apply IsS161.drewN | apply IsS161.drew | apply IsS161.set_1 | refine IsS161.far ?_ NB0_280.out _ | refine IsS161.far ?_ NB0_281.out _ | refine IsS161.far ?_ NB0_293.out _ | refine IsS161.far ?_ NB0_299.out _) | exact HI0.out)⟩, ⟨by repeat (first | (with_reducible first | exact HK.out | apply KeepBut.set_ | apply keep_drewN | apply keep_drew | apply keep_alloc | refine keep_far ?_ GW280.out _ | refine keep_far ?_ GW281.out _ | refine keep_far ?_ GW293.out _ | refine keep_far ?_ GW299.out _) | exact HK.out)⟩, ⟨by repeat (first | (with_reducible first | exact HB.out | apply below_alloc | apply pw_below_drewN | apply below_drew1 | refine below_set ?_ (IsS161.ge HI0.out) | refine below_set ?_ GE280.out | refine below_set ?_ GE281.out | refine below_set ?_ GE293.out | refine below_set ?_ GE299.out) | exact HB.out)⟩⟩
    · rw [if_neg c29] at H
      have c29b0 : (t300 == 0) = false := beq_eq_false_iff_ne.mpr c29
      have c29b1 : (t300 != 0) = true := bne_iff_ne.mpr c29
      (first | rw [c29b0] | (simp only [i64_w, i32_w]; rw [c29b0]) | skip)
      have H' := Aside0.mk H
      clear H
      go_wp2
      go_meet
      case rel => exact ⟨_, (t301), (t289), (t294), (t295), (.slice Ao19 t289.length co19), (.slice Ao27 t295.length co27), H', ⟨by first | omega | exact Nat.le_refl _⟩, ⟨by (with_reducible repeat (first | apply Kd.R_alloc | apply Kd.R_drewN | apply Kd.R_drew)); exact Kd.R_mono HO291.out (fun _ hk => hk.2)⟩, ⟨by (with_reducible repeat (first | apply Kd.R_alloc | apply Kd.R_drewN | apply Kd.R_drew)); exact Kd.R_mono HO297.out (fun _ hk => hk.2)⟩, sqk BK280, sqk BK281, sqk BK293, sqk BK299, ⟨by repeat (first | (with_reducible first | exact HI0.out | apply IsS161.alloc | apply IsS161.drewN | apply IsS161.drew | apply IsS161.set_1 | refine IsS161.far ?_ NB0_280.out _ | refine IsS161.far ?_ NB0_281.out _ | refine IsS161.far ?_ NB0_293.out _ | refine IsS161.far ?_ NB0_299.out _) | exact HI0.out)⟩, ⟨by repeat (first | (with_reducible first | exact HK.out | apply KeepBut.set_ | apply keep_drewN | apply keep_drew | apply keep_alloc | refine keep_far ?_ GW280.out _ | refine keep_far ?_ GW281.out _ | refine keep_far ?_ GW293.out _ | refine keep_far ?_ GW299.out _) | exact HK.out)⟩, ⟨by repeat (first | (with_reducible first | exact HB.out | apply below_alloc | apply pw_below_drewN | apply below_drew1 | refine below_set ?_ (IsS161.ge HI0.out) | refine below_set ?_ GE280.out | refine below_set ?_ GE281.out | refine below_set ?_ GE293.out | refine below_set ?_ GE299.out) | exact HB.out)⟩⟩
  case rest =>
    clear HC7
    try clear hcz18_0
    try clear hcz18_1
    try clear hcz26_0
    try clear hcz26_1
    try clear hfz18_0
    try clear hfz18_1
    try clear hfz26_0
    try clear hfz26_1
    obtain ⟨kq, x1001_6, x294001_6, x300000_6, x300001_6, u294001, u300001, HA, HJ6, HO_294001, HO_300001, BK280, BK281, BK293, BK299, HI0, HK, HB⟩ := hcut
    cases kq with
    | zero => exact absurd HA.out (by simp [spec_l11Pair.j1])
    | succ kj6 =>
      have H := HA.out
      clear HA
      simp only [spec_l11Pair.j1] at H
      replace H := Option.bind_eq_some_iff.mp H
      obtain ⟨⟨t311, t312⟩, A620, H⟩ := H
      replace H : (if t311 = 0 then ((spec_GapsTop.f kj6 (wrap64 (t282 + 1))).bind fun bt313 => (some (t288, x294001_6, bt313.1, bt313.2, t312))) else ((spec_l11Spoilt.f kj6 s0_0 t312 x300000_6 x300001_6).bind fun bt317 => (some (t288, x294001_6, bt317.1, bt317.2.1, bt317.2.2)))) = some (r1, r2, r3, r4, r5) := H
      have A62 := Aside0.mk A620
      clear A620
      by_cases c63 : t311 = 0
      · rw [if_pos c63] at H
        have c63b0 : (t311 == 0) = true := beq_iff_eq.mpr c63
        have c63b1 : (t311 != 0) = false := bne_eq_false_iff_eq.mpr c63
        clear c63
        replace H := Option.bind_eq_some_iff.mp H
        obtain ⟨⟨t313, t314⟩, A640, H⟩ := H
        replace H : (some (t288, x294001_6, t313, t314, t312)) = some (r1, r2, r3, r4, r5) := H
        have A64 := Aside0.mk A640
        clear A640
        simp only [Option.some.injEq, Prod.mk.injEq] at H
        obtain ⟨rfl, rfl, rfl, rfl, rfl⟩ := H
        try go_wp2_with (first | ((with_reducible refine gate_callee (f := 109) rfl ?_); refine sqL (some 46) Try.func109 #[.pointer (some ⟨g, 0, none⟩), .int .i64 20] ?_; (with_reducible refine (spec_l1Rd_pick.calls kj6 g s0_0 x1001_6 20 t311 t312 w0 _ ?side1 ?side2 A62.out).mono ?_); (case side1 => repeat (first | (with_reducible first | exact HI0.out | apply IsS161.alloc | apply IsS161.drewN | apply IsS161.drew | apply IsS161.set_1 | refine IsS161.far ?_ NB0_280.out _ | refine IsS161.far ?_ NB0_281.out _ | refine IsS161.far ?_ NB0_293.out _ | refine IsS161.far ?_ NB0_299.out _) | exact HI0.out)); (case side2 => repeat (first | (with_reducible first | exact HB.out | apply below_alloc | apply pw_below_drewN | apply below_drew1 | refine below_set ?_ (IsS161.ge HI0.out) | refine below_set ?_ GE280.out | refine below_set ?_ GE281.out | refine below_set ?_ GE293.out | refine below_set ?_ GE299.out) | exact HB.out)); rintro e w65 ⟨rfl, hi, hb, hk⟩; refine ⟨_, rfl, ?_⟩; have n0_ := Aside0.mk (Kd.R_mono (Kd.R_keep (IsS161.apart (show IsS161 w0 _ g s0_0 x1001_6 from by repeat (first | (with_reducible first | exact HI0.out | apply IsS161.alloc | apply IsS161.drewN | apply IsS161.drew | apply IsS161.set_1 | refine IsS161.far ?_ NB0_280.out _ | refine IsS161.far ?_ NB0_281.out _ | refine IsS161.far ?_ NB0_293.out _ | refine IsS161.far ?_ NB0_299.out _) | exact HI0.out)) (by (with_reducible repeat (first | apply Kd.R_alloc | apply Kd.R_drewN | apply Kd.R_drew)); exact HO_294001.out) (by decide)) hk (fun _ h => h.2)) (fun _ h => h.1)); have n1_ := Aside0.mk (Kd.R_mono (Kd.R_keep (IsS161.apart (show IsS161 w0 _ g s0_0 x1001_6 from by repeat (first | (with_reducible first | exact HI0.out | apply IsS161.alloc | apply IsS161.drewN | apply IsS161.drew | apply IsS161.set_1 | refine IsS161.far ?_ NB0_280.out _ | refine IsS161.far ?_ NB0_281.out _ | refine IsS161.far ?_ NB0_293.out _ | refine IsS161.far ?_ NB0_299.out _) | exact HI0.out)) (by (with_reducible repeat (first | apply Kd.R_alloc | apply Kd.R_drewN | apply Kd.R_drew)); exact HO_300001.out) (by decide)) hk (fun _ h => h.2)) (fun _ h => h.1)); have n2_ := Aside0.mk (KeepBut.blk hk (g' := gb280) (o := .cells #[.int .i64 0, .slice none 0 0] 41 (0, 0)) (by refine sqt ?_; exact BK280.out) NB280_0.out (by simp)); have n3_ := Aside0.mk (KeepBut.blk hk (g' := gb281) (o := .cells #[.int .i64 0, .slice none 0 0] 41 (0, 0)) (by refine sqt ?_; exact BK281.out) NB281_0.out (by simp)); have n4_ := Aside0.mk (KeepBut.blk hk (g' := gb293) (o := .cells #[.int .i64 t288, u294001] 41 (0, 0)) (by refine sqt ?_; exact BK293.out) NB293_0.out (by simp)); have n5_ := Aside0.mk (KeepBut.blk hk (g' := gb299) (o := .cells #[.int .i64 x300000_6, u300001] 41 (0, 0)) (by refine sqt ?_; exact BK299.out) NB299_0.out (by simp)); have n6_ := Aside0.mk (KeepBut.trans (by repeat (first | (with_reducible first | exact HK.out | apply KeepBut.set_ | apply keep_drewN | apply keep_drew | apply keep_alloc | refine keep_far ?_ GW280.out _ | refine keep_far ?_ GW281.out _ | refine keep_far ?_ GW293.out _ | refine keep_far ?_ GW299.out _) | exact HK.out)) hk (.inl rfl)); have n7_ := Aside0.mk (hb); have n8_ := Aside0.mk (hi); clear HO_294001; clear HO_300001; clear BK280; clear BK281; clear BK293; clear BK299; clear HK; clear HB; clear HI0; have HO_294001 := n0_; have HO_300001 := n1_; have BK280 := n2_; have BK281 := n3_; have BK293 := n4_; have BK299 := n5_; have HK := n6_; have HB := n7_; have HI0 := n8_; clear n0_ n1_ n2_ n3_ n4_ n5_ n6_ n7_ n8_; (try clear hb); (try clear hb2); (try clear hk); (try clear hi)))
        replace HO_294001 := Aside0.mk (Kd.R_drew HO_294001.out)
        replace HO_300001 := Aside0.mk (Kd.R_drew HO_300001.out)
        replace BK280 := Aside0.mk (blk_drew BK280.out)
        replace BK281 := Aside0.mk (blk_drew BK281.out)
        replace BK293 := Aside0.mk (blk_drew BK293.out)
        replace BK299 := Aside0.mk (blk_drew BK299.out)
        replace HI0 := Aside0.mk (IsS161.drew HI0.out)
        replace HK := Aside0.mk (keep_drew HK.out)
        replace HB := Aside0.mk (below_drew1 HB.out)
        refine start_ (n := 6) (S := fun w' => w'.cell? ⟨gb293, 0, none⟩ = some (.int .i64 t288) ∧ w'.cell? ⟨gb293, 1, none⟩ = some (u294001)) (ds := []) #[false, false, false, false, false, false] (by kernel_rfl) rfl rfl ⟨(blk_cell BK293.out 0).trans rfl, (blk_cell BK293.out 1).trans rfl⟩ (fun hHeld => ?_)
        generalize w65.drew = w66 at HO_294001 HO_300001 BK280 BK281 BK293 BK299 HI0 HK HB hHeld ⊢
        refine pure_ (i := 1) (N := some 49) (v := ?_) (a' := ?_) #[false, true, false, false, false, false] rfl rfl (by kernel_rfl) (fun _ _ _ h => h) (Or.inl ⟨by rfl, ?_⟩) ?_ ?_
        rotate_left
        · intro w'
          go_simp
          with_reducible rfl
        rotate_left
        · simp only [Act.put, List.setIfInBounds_toArray, List.set_cons_zero, List.set_cons_succ, i64_w, i32_w]
          rfl
        refine pure_ (i := 2) (N := some 50) (v := ?_) (a' := ?_) #[false, true, true, false, false, false] rfl rfl (by kernel_rfl) (fun _ _ _ h => h) (Or.inl ⟨by rfl, ?_⟩) ?_ ?_
        rotate_left
        · intro w'
          go_simp
          with_reducible rfl
        rotate_left
        · simp only [Act.put, List.setIfInBounds_toArray, List.set_cons_zero, List.set_cons_succ, i64_w, i32_w]
          rfl
        refine take_ (i := 0) (N := some 48) (v := ?_) (a' := ?_) #[true, true, true, false, false, false] rfl rfl (by kernel_rfl) (fun _ _ _ h => h) (Or.inl ⟨by rfl, ?_⟩) hHeld ?_ ?_
        rotate_left
        · rintro w' ⟨s0, s1⟩
          go_simp
          with_reducible rfl
        rotate_left
        · simp only [Act.put, List.setIfInBounds_toArray, List.set_cons_zero, List.set_cons_succ, i64_w, i32_w]
          rfl
        refine one_ (i := 3) (N := some 51) #[true, true, true, true, false, false] rfl rfl (by kernel_rfl) (by decide) (fun K hK => ?_)
        refine sqG Try.func196 #[.int .i64 (wrap64 (t282 + 1))] ?_
        with_reducible refine (spec_GapsTop.calls kj6 (wrap64 (t282 + 1)) t313 t314 _ A64.out).mono ?_
        rintro e w67 ⟨v315, rfl, ho0, hb⟩
        refine ⟨_, rfl, ?_⟩
        have n0_ := Aside0.mk (Kd.R_elder' (by (with_reducible repeat (first | apply Kd.R_alloc | apply Kd.R_drewN | apply Kd.R_drew)); exact HO_294001.out) (Kd.R_base ho0) hb)
        have n1_ := Aside0.mk (Kd.R_elder' (by (with_reducible repeat (first | apply Kd.R_alloc | apply Kd.R_drewN | apply Kd.R_drew)); exact HO_300001.out) (Kd.R_base ho0) hb)
        have n2_ := Aside0.mk (Kd.R_lower (Kd.R_new' (Kd.R_new' ho0 (Kd.R_lt (by (with_reducible repeat (first | apply Kd.R_alloc | apply Kd.R_drewN | apply Kd.R_drew)); exact HO_294001.out))) (Kd.R_lt (by (with_reducible repeat (first | apply Kd.R_alloc | apply Kd.R_drewN | apply Kd.R_drew)); exact HO_300001.out))) (keep_size (w := w) (g := g) (row := none) (by repeat (first | (with_reducible first | exact HK.out | apply KeepBut.set_ | apply keep_drewN | apply keep_drew | apply keep_alloc | refine keep_far ?_ GW280.out _ | refine keep_far ?_ GW281.out _ | refine keep_far ?_ GW293.out _ | refine keep_far ?_ GW299.out _) | exact HK.out))))
        have n3_ := sqb BK280 hb
        have n4_ := sqb BK281 hb
        have n5_ := sqb BK293 hb
        have n6_ := sqb BK299 hb
        have n7_ := Aside0.mk (IsS161.below (by repeat (first | (with_reducible first | exact HI0.out | apply IsS161.alloc | apply IsS161.drewN | apply IsS161.drew | apply IsS161.set_1 | refine IsS161.far ?_ NB0_280.out _ | refine IsS161.far ?_ NB0_281.out _ | refine IsS161.far ?_ NB0_293.out _ | refine IsS161.far ?_ NB0_299.out _) | exact HI0.out)) hb)
        have n8_ := Aside0.mk (KeepBut.trans (by repeat (first | (with_reducible first | exact HK.out | apply KeepBut.set_ | apply keep_drewN | apply keep_drew | apply keep_alloc | refine keep_far ?_ GW280.out _ | refine keep_far ?_ GW281.out _ | refine keep_far ?_ GW293.out _ | refine keep_far ?_ GW299.out _) | exact HK.out)) (KeepBut.of_below hb g none) (.inl rfl))
        have n9_ := Aside0.mk (below_step (by repeat (first | (with_reducible first | exact HB.out | apply below_alloc | apply pw_below_drewN | apply below_drew1 | refine below_set ?_ (IsS161.ge HI0.out) | refine below_set ?_ GE280.out | refine below_set ?_ GE281.out | refine below_set ?_ GE293.out | refine below_set ?_ GE299.out) | exact HB.out)) hb)
        clear HO_294001
        clear HO_300001
        clear BK280
        clear BK281
        clear BK293
        clear BK299
        clear HI0
        clear HK
        clear HB
        have HO_294001 := n0_
        have HO_300001 := n1_
        have HO316 := n2_
        have BK280 := n3_
        have BK281 := n4_
        have BK293 := n5_
        have BK299 := n6_
        have HI0 := n7_
        have HK := n8_
        have HB := n9_
        clear n0_ n1_ n2_ n3_ n4_ n5_ n6_ n7_ n8_ n9_
        (try clear hb)
        (try clear hb2)
        (try clear hk)
        (try clear hi)
        (try clear ho0)
        obtain ⟨Ao69, co69, eo69⟩ := Kd.R_slice HO_294001.out
        (first | subst eo69 | (injection eo69 with f1_ f2_ f3_; have f4_ := f1_.symm; have f5_ := f3_.symm; clear f1_ f2_ f3_; subst f4_; subst f5_))
        obtain ⟨Ao72, co72, eo72⟩ := Kd.R_slice HO316.out
        (first | subst eo72 | (injection eo72 with f1_ f2_ f3_; have f4_ := f1_.symm; have f5_ := f3_.symm; clear f1_ f2_ f3_; subst f4_; subst f5_))
        refine hK.out _ _ sqz (fun hHeld => ?_)
        clear hK K
        refine sqnm ?_
        refine one_ (i := 4) (N := none) #[true, true, true, true, true, false] rfl rfl (by kernel_rfl) (by decide) (fun K hK => ?_)
        have hs68 : w67.cell? ⟨gb280, 0, none⟩ = some (.int .i64 0) := (blk_cell BK280.out 0).trans rfl
        have hfs68 := blk_frozen BK280.out 0
        have hns68_1 := NB281_280.out
        have hns68_2 := NB293_280.out
        have hns68_3 := NB299_280.out
        have hms68_1 := NB280_281.out
        have hms68_2 := NB280_293.out
        have hms68_3 := NB280_299.out
        have hs70 : w67.cell? ⟨gb280, 1, none⟩ = some (.slice none 0 0) := (blk_cell BK280.out 1).trans rfl
        have hfs70 := blk_frozen BK280.out 1
        have hns70_1 := NB281_280.out
        have hns70_2 := NB293_280.out
        have hns70_3 := NB299_280.out
        have hms70_1 := NB280_281.out
        have hms70_2 := NB280_293.out
        have hms70_3 := NB280_299.out
        refine skip_ (w1 := ?_) (by rfl) rfl ?_ ?_
        rotate_left
        · go_simp
          rfl
        refine hK.out _ _ ⟨((cell_far (p := ⟨gb280, _, none⟩) NB293_280.out _).trans (((cell_far (p := ⟨gb280, _, none⟩) NB293_280.out _).trans (hHeld.1)))), ((cell_far (p := ⟨gb280, _, none⟩) NB293_280.out _).trans (((cell_far (p := ⟨gb280, _, none⟩) NB293_280.out _).trans (hHeld.2))))⟩ (fun hHeld => ?_)
        clear hK K
        refine one_ (i := 5) (N := none) #[true, true, true, true, true, true] rfl rfl (by kernel_rfl) (by decide) (fun K hK => ?_)
        have hs71 : w67.cell? ⟨gb281, 0, none⟩ = some (.int .i64 0) := (blk_cell BK281.out 0).trans rfl
        have hfs71 := blk_frozen BK281.out 0
        have hns71_0 := NB280_281.out
        have hns71_2 := NB293_281.out
        have hns71_3 := NB299_281.out
        have hms71_0 := NB281_280.out
        have hms71_2 := NB281_293.out
        have hms71_3 := NB281_299.out
        have hs73 : w67.cell? ⟨gb281, 1, none⟩ = some (.slice none 0 0) := (blk_cell BK281.out 1).trans rfl
        have hfs73 := blk_frozen BK281.out 1
        have hns73_0 := NB280_281.out
        have hns73_2 := NB293_281.out
        have hns73_3 := NB299_281.out
        have hms73_0 := NB281_280.out
        have hms73_2 := NB281_293.out
        have hms73_3 := NB281_299.out
        refine skip_ (w1 := ?_) (by rfl) rfl ?_ ?_
        rotate_left
        · go_simp
          rfl
        refine hK.out _ _ ⟨((cell_far (p := ⟨gb281, _, none⟩) NB293_281.out _).trans (((cell_far (p := ⟨gb281, _, none⟩) NB293_281.out _).trans (hHeld.1)))), ((cell_far (p := ⟨gb281, _, none⟩) NB293_281.out _).trans (((cell_far (p := ⟨gb281, _, none⟩) NB293_281.out _).trans (hHeld.2))))⟩ (fun hHeld => ?_)
        clear hK K
        refine done_ (by kernel_rfl) ?_
        try go_wp2
        refine bodyPost_ret (results_cc rfl _ _ gb280 gb281 41 41 #[.int .i64 t288, .slice Ao69 x294001_6.length co69] #[.int .i64 t313, .slice Ao72 t314.length co72] (0, 0) (0, 0) _ _ rfl (by refine sqt ?_; refine blk_far ?_ NB280_281.out _; refine sqt ?_; refine blk_far ?_ NB280_281.out _; refine sqt ?_; refine blk_put (cs := #[.int .i64 t288, .slice none 0 0]) ?_ 1 _ rfl; refine sqt ?_; refine blk_put (cs := #[.int .i64 0, .slice none 0 0]) ?_ 0 _ rfl; refine sqt ?_; exact BK280.out) Try.underlying41 rfl (by kernel_rfl) rfl (by refine sqt ?_; refine blk_put (cs := #[.int .i64 t313, .slice none 0 0]) ?_ 1 _ rfl; refine sqt ?_; refine blk_put (cs := #[.int .i64 0, .slice none 0 0]) ?_ 0 _ rfl; refine sqt ?_; refine blk_far ?_ NB281_280.out _; refine sqt ?_; refine blk_far ?_ NB281_280.out _; refine sqt ?_; exact BK281.out) Try.underlying41 rfl (by kernel_rfl)) rfl ?_
        exact ⟨_, _, by first | rfl | (simp [errW_none, errW_some] <;> rfl) | (simp [*, errW_none, errW_some] <;> rfl), by (with_reducible repeat (first | apply Kd.R_alloc | apply Kd.R_drewN | apply Kd.R_drew)); exact Kd.R_mono (Kd.R_far (p := ⟨gb281, 1, none⟩) (Kd.R_far (p := ⟨gb281, 0, none⟩) (Kd.R_far (p := ⟨gb280, 1, none⟩) (Kd.R_far (p := ⟨gb280, 0, none⟩) (Kd.R_types (Kd.R_types HO_294001.out BK280.out (by decide)) BK281.out (by decide)) (fun _ hk => hk.1.2) (.int .i64 t288)) (fun _ hk => hk.1.2) (.slice Ao69 x294001_6.length co69)) (fun _ hk => hk.2) (.int .i64 t313)) (fun _ hk => hk.2) (.slice Ao72 t314.length co72)) (fun _ hk => hk.1.1.2), by (with_reducible repeat (first | apply Kd.R_alloc | apply Kd.R_drewN | apply Kd.R_drew)); exact Kd.R_mono (Kd.R_far (p := ⟨gb281, 1, none⟩) (Kd.R_far (p := ⟨gb281, 0, none⟩) (Kd.R_far (p := ⟨gb280, 1, none⟩) (Kd.R_far (p := ⟨gb280, 0, none⟩) (Kd.R_types (Kd.R_types HO316.out BK280.out (by decide)) BK281.out (by decide)) (fun _ hk => hk.1.2) (.int .i64 t288)) (fun _ hk => hk.1.2) (.slice Ao69 x294001_6.length co69)) (fun _ hk => hk.2) (.int .i64 t313)) (fun _ hk => hk.2) (.slice Ao72 t314.length co72)) (fun _ hk => hk.1.1.1.2), by repeat (first | (with_reducible first | exact HI0.out | apply IsS161.alloc | apply IsS161.drewN | apply IsS161.drew | apply IsS161.set_1 | refine IsS161.far ?_ NB0_280.out _ | refine IsS161.far ?_ NB0_281.out _ | refine IsS161.far ?_ NB0_293.out _ | refine IsS161.far ?_ NB0_299.out _) | exact HI0.out), by repeat (first | (with_reducible first | exact HB.out | apply below_alloc | apply pw_below_drewN | apply below_drew1 | refine below_set ?_ (IsS161.ge HI0.out) | refine below_set ?_ GE280.out | refine below_set ?_ GE281.out | refine below_set ?_ GE293.out | refine below_set ?_ GE299.out) | exact HB.out), by repeat (first | (with_reducible first | exact HK.out | apply KeepBut.set_ | apply keep_drewN | apply keep_drew | apply keep_alloc | refine keep_far ?_ GW280.out _ | refine keep_far ?_ GW281.out _ | refine keep_far ?_ GW293.out _ | refine keep_far ?_ GW299.out _) | exact HK.out)⟩
      · rw [if_neg c63] at H
        have c63b0 : (t311 == 0) = false := beq_eq_false_iff_ne.mpr c63
        have c63b1 : (t311 != 0) = true := bne_iff_ne.mpr c63
        replace H := Option.bind_eq_some_iff.mp H
        obtain ⟨⟨t317, t318, t321⟩, A740, H⟩ := H
        replace H : (some (t288, x294001_6, t317, t318, t321)) = some (r1, r2, r3, r4, r5) := H
        have A74 := Aside0.mk A740
        clear A740
        simp only [Option.some.injEq, Prod.mk.injEq] at H
        obtain ⟨rfl, rfl, rfl, rfl, rfl⟩ := H
        try go_wp2_with (first | ((with_reducible refine gate_callee (f := 109) rfl ?_); refine sqL (some 46) Try.func109 #[.pointer (some ⟨g, 0, none⟩), .int .i64 20] ?_; (with_reducible refine (spec_l1Rd_pick.calls kj6 g s0_0 x1001_6 20 t311 t312 w0 _ ?side1 ?side2 A62.out).mono ?_); (case side1 => repeat (first | (with_reducible first | exact HI0.out | apply IsS161.alloc | apply IsS161.drewN | apply IsS161.drew | apply IsS161.set_1 | refine IsS161.far ?_ NB0_280.out _ | refine IsS161.far ?_ NB0_281.out _ | refine IsS161.far ?_ NB0_293.out _ | refine IsS161.far ?_ NB0_299.out _) | exact HI0.out)); (case side2 => repeat (first | (with_reducible first | exact HB.out | apply below_alloc | apply pw_below_drewN | apply below_drew1 | refine below_set ?_ (IsS161.ge HI0.out) | refine below_set ?_ GE280.out | refine below_set ?_ GE281.out | refine below_set ?_ GE293.out | refine below_set ?_ GE299.out) | exact HB.out)); rintro e w75 ⟨rfl, hi, hb, hk⟩; refine ⟨_, rfl, ?_⟩; have n0_ := Aside0.mk (Kd.R_mono (Kd.R_keep (IsS161.apart (show IsS161 w0 _ g s0_0 x1001_6 from by repeat (first | (with_reducible first | exact HI0.out | apply IsS161.alloc | apply IsS161.drewN | apply IsS161.drew | apply IsS161.set_1 | refine IsS161.far ?_ NB0_280.out _ | refine IsS161.far ?_ NB0_281.out _ | refine IsS161.far ?_ NB0_293.out _ | refine IsS161.far ?_ NB0_299.out _) | exact HI0.out)) (by (with_reducible repeat (first | apply Kd.R_alloc | apply Kd.R_drewN | apply Kd.R_drew)); exact HO_294001.out) (by decide)) hk (fun _ h => h.2)) (fun _ h => h.1)); have n1_ := Aside0.mk (Kd.R_mono (Kd.R_keep (IsS161.apart (show IsS161 w0 _ g s0_0 x1001_6 from by repeat (first | (with_reducible first | exact HI0.out | apply IsS161.alloc | apply IsS161.drewN | apply IsS161.drew | apply IsS161.set_1 | refine IsS161.far ?_ NB0_280.out _ | refine IsS161.far ?_ NB0_281.out _ | refine IsS161.far ?_ NB0_293.out _ | refine IsS161.far ?_ NB0_299.out _) | exact HI0.out)) (by (with_reducible repeat (first | apply Kd.R_alloc | apply Kd.R_drewN | apply Kd.R_drew)); exact HO_300001.out) (by decide)) hk (fun _ h => h.2)) (fun _ h => h.1)); have n2_ := Aside0.mk (KeepBut.blk hk (g' := gb280) (o := .cells #[.int .i64 0, .slice none 0 0] 41 (0, 0)) (by refine sqt ?_; exact BK280.out) NB280_0.out (by simp)); have n3_ := Aside0.mk (KeepBut.blk hk (g' := gb281) (o := .cells #[.int .i64 0, .slice none 0 0] 41 (0, 0)) (by refine sqt ?_; exact BK281.out) NB281_0.out (by simp)); have n4_ := Aside0.mk (KeepBut.blk hk (g' := gb293) (o := .cells #[.int .i64 t288, u294001] 41 (0, 0)) (by refine sqt ?_; exact BK293.out) NB293_0.out (by simp)); have n5_ := Aside0.mk (KeepBut.blk hk (g' := gb299) (o := .cells #[.int .i64 x300000_6, u300001] 41 (0, 0)) (by refine sqt ?_; exact BK299.out) NB299_0.out (by simp)); have n6_ := Aside0.mk (KeepBut.trans (by repeat (first | (with_reducible first | exact HK.out | apply KeepBut.set_ | apply keep_drewN | apply keep_drew | apply keep_alloc | refine keep_far ?_ GW280.out _ | refine keep_far ?_ GW281.out _ | refine keep_far ?_ GW293.out _ | refine keep_far ?_ GW299.out _) | exact HK.out)) hk (.inl rfl)); have n7_ := Aside0.mk (hb); have n8_ := Aside0.mk (hi); clear HO_294001; clear HO_300001; clear BK280; clear BK281; clear BK293; clear BK299; clear HK; clear HB; clear HI0; have HO_294001 := n0_; have HO_300001 := n1_; have BK280 := n2_; have BK281 := n3_; have BK293 := n4_; have BK299 := n5_; have HK := n6_; have HB := n7_; have HI0 := n8_; clear n0_ n1_ n2_ n3_ n4_ n5_ n6_ n7_ n8_; (try clear hb); (try clear hb2); (try clear hk); (try clear hi)))
        replace HO_294001 := Aside0.mk (Kd.R_drew HO_294001.out)
        replace HO_300001 := Aside0.mk (Kd.R_drew HO_300001.out)
        replace BK280 := Aside0.mk (blk_drew BK280.out)
        replace BK281 := Aside0.mk (blk_drew BK281.out)
        replace BK293 := Aside0.mk (blk_drew BK293.out)
        replace BK299 := Aside0.mk (blk_drew BK299.out)
        replace HI0 := Aside0.mk (IsS161.drew HI0.out)
        replace HK := Aside0.mk (keep_drew HK.out)
        replace HB := Aside0.mk (below_drew1 HB.out)
        obtain ⟨Ao77, co77, eo77⟩ := Kd.R_slice HO_300001.out
        (first | subst eo77 | (injection eo77 with f1_ f2_ f3_; have f4_ := f1_.symm; have f5_ := f3_.symm; clear f1_ f2_ f3_; subst f4_; subst f5_))
        refine start_ (n := 6) (S := fun w' => w'.cell? ⟨gb293, 0, none⟩ = some (.int .i64 t288) ∧ w'.cell? ⟨gb293, 1, none⟩ = some (u294001) ∧ w'.cell? ⟨gb299, 0, none⟩ = some (.int .i64 x300000_6) ∧ w'.cell? ⟨gb299, 1, none⟩ = some (.slice Ao77 x300001_6.length co77)) (ds := []) #[false, false, false, false, false, false] (by kernel_rfl) rfl rfl ⟨(blk_cell BK293.out 0).trans rfl, (blk_cell BK293.out 1).trans rfl, (blk_cell BK299.out 0).trans rfl, (blk_cell BK299.out 1).trans rfl⟩ (fun hHeld => ?_)
        generalize w75.drew = w76 at HO_294001 HO_300001 BK280 BK281 BK293 BK299 HI0 HK HB hHeld ⊢
        refine pure_ (i := 1) (N := some 53) (v := ?_) (a' := ?_) #[false, true, false, false, false, false] rfl rfl (by kernel_rfl) (fun _ _ _ h => h) (Or.inl ⟨by rfl, ?_⟩) ?_ ?_
        rotate_left
        · intro w'
          go_simp
          with_reducible rfl
        rotate_left
        · simp only [Act.put, List.setIfInBounds_toArray, List.set_cons_zero, List.set_cons_succ, i64_w, i32_w]
          rfl
        refine take_ (i := 0) (N := some 52) (v := ?_) (a' := ?_) #[true, true, false, false, false, false] rfl rfl (by kernel_rfl) (fun _ _ _ h => h) (Or.inl ⟨by rfl, ?_⟩) hHeld ?_ ?_
        rotate_left
        · rintro w' ⟨s0, s1, s2, s3⟩
          go_simp
          with_reducible rfl
        rotate_left
        · simp only [Act.put, List.setIfInBounds_toArray, List.set_cons_zero, List.set_cons_succ, i64_w, i32_w]
          rfl
        refine take_ (i := 2) (N := some 54) (v := ?_) (a' := ?_) #[true, true, true, false, false, false] rfl rfl (by kernel_rfl) (fun _ _ _ h => h) (Or.inl ⟨by rfl, ?_⟩) hHeld ?_ ?_
        rotate_left
        · rintro w' ⟨s0, s1, s2, s3⟩
          go_simp
          with_reducible rfl
        rotate_left
        · simp only [Act.put, List.setIfInBounds_toArray, List.set_cons_zero, List.set_cons_succ, i64_w, i32_w]
          rfl
        refine one_ (i := 3) (N := some 55) #[true, true, true, true, false, false] rfl rfl (by kernel_rfl) (by decide) (fun K hK => ?_)
        refine sqG Try.func110 #[.pointer (some ⟨g, 0, none⟩), .agg #[.int .i64 x300000_6, .slice Ao77 x300001_6.length co77]] ?_
        with_reducible refine (spec_l11Spoilt.calls kj6 g s0_0 t312 x300000_6 (fun k_ => some k_ = (.slice Ao77 x300001_6.length co77 : Value).ownBlock) (.slice Ao77 x300001_6.length co77) x300001_6 t317 t318 t321 w0 _ ?side1 ?side2 ?side3 A74.out).mono ?_
        (case side1 => repeat (first | (with_reducible first | exact HI0.out | apply IsS161.alloc | apply IsS161.drewN | apply IsS161.drew | apply IsS161.set_1 | refine IsS161.far ?_ NB0_280.out _ | refine IsS161.far ?_ NB0_281.out _ | refine IsS161.far ?_ NB0_293.out _ | refine IsS161.far ?_ NB0_299.out _) | exact HI0.out))
        (case side2 => repeat (first | (with_reducible first | exact HB.out | apply below_alloc | apply pw_below_drewN | apply below_drew1 | refine below_set ?_ (IsS161.ge HI0.out) | refine below_set ?_ GE280.out | refine below_set ?_ GE281.out | refine below_set ?_ GE293.out | refine below_set ?_ GE299.out) | exact HB.out))
        (case side3 => exact Kd.R_lower (Kd.R_tight rfl HO_300001.out) HL.out)
        rintro e w78 ⟨v319, rfl, ho0, hi, hb, hkp⟩
        refine ⟨_, rfl, ?_⟩
        have n0_ := Aside0.mk (Kd.R_mono (ok' := fun k_ => some k_ ≠ (v319 : Value).ownBlock) (Kd.R_keptB ((IsS161.apart HI0.out HO_294001.out (by decide))) hkp (fun k_ hk_ hs_ => Or.elim hs_ (fun hs_ => (hk_.1) hs_) (fun e_ => (hk_.2) e_))) (fun k_ hk_ => fun e_ => Or.elim (ho0.1 k_ e_.symm) (fun hs_ => by first | exact hk_.2.1 hs_ | exact hk_.2.1 (.inl hs_)) (fun hn_ => Nat.not_le.2 hk_.2.2 hn_)))
        have n1_ := Aside0.mk (blk_kept (by refine sqt ?_; exact BK280.out) hkp (fun hs_ => Or.elim hs_ (fun hs_ => (fun e_ => (Kd.R_ne HO_300001.out BK280.out (by decide)) e_) hs_) (fun e_ => NB280_0.out e_)))
        have n2_ := Aside0.mk (blk_kept (by refine sqt ?_; exact BK281.out) hkp (fun hs_ => Or.elim hs_ (fun hs_ => (fun e_ => (Kd.R_ne HO_300001.out BK281.out (by decide)) e_) hs_) (fun e_ => NB281_0.out e_)))
        have n3_ := Aside0.mk (blk_kept (by refine sqt ?_; exact BK293.out) hkp (fun hs_ => Or.elim hs_ (fun hs_ => (fun e_ => (Kd.R_ne HO_300001.out BK293.out (by decide)) e_) hs_) (fun e_ => NB293_0.out e_)))
        have n4_ := Aside0.mk (blk_kept (by refine sqt ?_; exact BK299.out) hkp (fun hs_ => Or.elim hs_ (fun hs_ => (fun e_ => (Kd.R_ne HO_300001.out BK299.out (by decide)) e_) hs_) (fun e_ => NB299_0.out e_)))
        have n5_ := Aside0.mk (hi)
        have n6_ := Aside0.mk (Kd.R_mono (ok' := fun k_ => some k_ ≠ (u294001 : Value).ownBlock) (Kd.R_raise (d := (Kd.int .i64)) (b := w0.heap.size) (b' := w.heap.size) (fun _ _ _ _ h_ => h_) ho0 (fun k_ e_ => Or.elim (ho0.1 k_ e_) (fun hs_ => (fun e_ => Kd.R_base HO_300001.out k_ e_.symm) hs_) (fun hn_ => Nat.le_trans (keep_size (w := w) (g := g) (row := none) (by repeat (first | (with_reducible first | exact HK.out | apply KeepBut.set_ | apply keep_drewN | apply keep_drew | apply keep_alloc | refine keep_far ?_ GW280.out _ | refine keep_far ?_ GW281.out _ | refine keep_far ?_ GW293.out _ | refine keep_far ?_ GW299.out _) | exact HK.out))) hn_))) (fun k_ hk_ => Or.elim hk_ (fun hs_ => fun e_ => ((((IsS161.apart HI0.out HO_294001.out (by decide))).1 k_ e_.symm).1) hs_) (fun hn_ => (Kd.fresh' (Kd.R_lt (by (with_reducible repeat (first | apply Kd.R_alloc | apply Kd.R_drewN | apply Kd.R_drew)); exact HO_294001.out)) k_ hn_))))
        have n7_ := Aside0.mk (Kept.keepG (by repeat (first | (with_reducible first | exact HK.out | apply KeepBut.set_ | apply keep_drewN | apply keep_drew | apply keep_alloc | refine keep_far ?_ GW280.out _ | refine keep_far ?_ GW281.out _ | refine keep_far ?_ GW293.out _ | refine keep_far ?_ GW299.out _) | exact HK.out)) hkp (fun k_ hs_ => Or.elim hs_ (fun hs_ => (fun e_ => .inr (Kd.R_base HO_300001.out k_ e_.symm)) hs_) (fun e_ => .inl e_)))
        have n8_ := Aside0.mk (hb)
        clear HO_294001
        clear BK280
        clear BK281
        clear BK293
        clear BK299
        clear HI0
        clear HK
        clear HB
        clear HO_300001
        have HO_294001 := n0_
        have BK280 := n1_
        have BK281 := n2_
        have BK293 := n3_
        have BK299 := n4_
        have HI0 := n5_
        have HO320 := n6_
        have HK := n7_
        have HB := n8_
        clear n0_ n1_ n2_ n3_ n4_ n5_ n6_ n7_ n8_
        (try clear hb)
        (try clear hkp)
        (try clear ho0)
        obtain ⟨Ao80, co80, eo80⟩ := Kd.R_slice HO_294001.out
        (first | subst eo80 | (injection eo80 with f1_ f2_ f3_; have f4_ := f1_.symm; have f5_ := f3_.symm; clear f1_ f2_ f3_; subst f4_; subst f5_))
        obtain ⟨Ao83, co83, eo83⟩ := Kd.R_slice HO320.out
        (first | subst eo83 | (injection eo83 with f1_ f2_ f3_; have f4_ := f1_.symm; have f5_ := f3_.symm; clear f1_ f2_ f3_; subst f4_; subst f5_))
        refine hK.out _ _ sqz (fun hHeld => ?_)
        clear hK K
        refine sqnm ?_
        refine one_ (i := 4) (N := none) #[true, true, true, true, true, false] rfl rfl (by kernel_rfl) (by decide) (fun K hK => ?_)
        have hs79 : w78.cell? ⟨gb280, 0, none⟩ = some (.int .i64 0) := (blk_cell BK280.out 0).trans rfl
        have hfs79 := blk_frozen BK280.out 0
        have hns79_1 := NB281_280.out
        have hns79_2 := NB293_280.out
        have hns79_3 := NB299_280.out
        have hms79_1 := NB280_281.out
        have hms79_2 := NB280_293.out
        have hms79_3 := NB280_299.out
        have hs81 : w78.cell? ⟨gb280, 1, none⟩ = some (.slice none 0 0) := (blk_cell BK280.out 1).trans rfl
        have hfs81 := blk_frozen BK280.out 1
        have hns81_1 := NB281_280.out
        have hns81_2 := NB293_280.out
        have hns81_3 := NB299_280.out
        have hms81_1 := NB280_281.out
        have hms81_2 := NB280_293.out
        have hms81_3 := NB280_299.out
        refine skip_ (w1 := ?_) (by rfl) rfl ?_ ?_
        rotate_left
        · go_simp
          rfl
        refine hK.out _ _ ⟨((cell_far (p := ⟨gb280, _, none⟩) NB293_280.out _).trans (((cell_far (p := ⟨gb280, _, none⟩) NB293_280.out _).trans (hHeld.1)))), ((cell_far (p := ⟨gb280, _, none⟩) NB293_280.out _).trans (((cell_far (p := ⟨gb280, _, none⟩) NB293_280.out _).trans (hHeld.2.1)))), ((cell_far (p := ⟨gb280, _, none⟩) NB299_280.out _).trans (((cell_far (p := ⟨gb280, _, none⟩) NB299_280.out _).trans (hHeld.2.2.1)))), ((cell_far (p := ⟨gb280, _, none⟩) NB299_280.out _).trans (((cell_far (p := ⟨gb280, _, none⟩) NB299_280.out _).trans (hHeld.2.2.2))))⟩ (fun hHeld => ?_)
        clear hK K
        refine one_ (i := 5) (N := none) #[true, true, true, true, true, true] rfl rfl (by kernel_rfl) (by decide) (fun K hK => ?_)
        have hs82 : w78.cell? ⟨gb281, 0, none⟩ = some (.int .i64 0) := (blk_cell BK281.out 0).trans rfl
        have hfs82 := blk_frozen BK281.out 0
        have hns82_0 := NB280_281.out
        have hns82_2 := NB293_281.out
        have hns82_3 := NB299_281.out
        have hms82_0 := NB281_280.out
        have hms82_2 := NB281_293.out
        have hms82_3 := NB281_299.out
        have hs84 : w78.cell? ⟨gb281, 1, none⟩ = some (.slice none 0 0) := (blk_cell BK281.out 1).trans rfl
        have hfs84 := blk_frozen BK281.out 1
        have hns84_0 := NB280_281.out
        have hns84_2 := NB293_281.out
        have hns84_3 := NB299_281.out
        have hms84_0 := NB281_280.out
        have hms84_2 := NB281_293.out
        have hms84_3 := NB281_299.out
        refine skip_ (w1 := ?_) (by rfl) rfl ?_ ?_
        rotate_left
        · go_simp
          rfl
        refine hK.out _ _ ⟨((cell_far (p := ⟨gb281, _, none⟩) NB293_281.out _).trans (((cell_far (p := ⟨gb281, _, none⟩) NB293_281.out _).trans (hHeld.1)))), ((cell_far (p := ⟨gb281, _, none⟩) NB293_281.out _).trans (((cell_far (p := ⟨gb281, _, none⟩) NB293_281.out _).trans (hHeld.2.1)))), ((cell_far (p := ⟨gb281, _, none⟩) NB299_281.out _).trans (((cell_far (p := ⟨gb281, _, none⟩) NB299_281.out _).trans (hHeld.2.2.1)))), ((cell_far (p := ⟨gb281, _, none⟩) NB299_281.out _).trans (((cell_far (p := ⟨gb281, _, none⟩) NB299_281.out _).trans (hHeld.2.2.2))))⟩ (fun hHeld => ?_)
        clear hK K
        refine done_ (by kernel_rfl) ?_
        try go_wp2
        refine bodyPost_ret (results_cc rfl _ _ gb280 gb281 41 41 #[.int .i64 t288, .slice Ao80 x294001_6.length co80] #[.int .i64 t317, .slice Ao83 t318.length co83] (0, 0) (0, 0) _ _ rfl (by refine sqt ?_; refine blk_far ?_ NB280_281.out _; refine sqt ?_; refine blk_far ?_ NB280_281.out _; refine sqt ?_; refine blk_put (cs := #[.int .i64 t288, .slice none 0 0]) ?_ 1 _ rfl; refine sqt ?_; refine blk_put (cs := #[.int .i64 0, .slice none 0 0]) ?_ 0 _ rfl; refine sqt ?_; exact BK280.out) Try.underlying41 rfl (by kernel_rfl) rfl (by refine sqt ?_; refine blk_put (cs := #[.int .i64 t317, .slice none 0 0]) ?_ 1 _ rfl; refine sqt ?_; refine blk_put (cs := #[.int .i64 0, .slice none 0 0]) ?_ 0 _ rfl; refine sqt ?_; refine blk_far ?_ NB281_280.out _; refine sqt ?_; refine blk_far ?_ NB281_280.out _; refine sqt ?_; exact BK281.out) Try.underlying41 rfl (by kernel_rfl)) rfl ?_
        exact ⟨_, _, by first | rfl | (simp [errW_none, errW_some] <;> rfl) | (simp [*, errW_none, errW_some] <;> rfl), by (with_reducible repeat (first | apply Kd.R_alloc | apply Kd.R_drewN | apply Kd.R_drew)); exact Kd.R_mono (Kd.R_far (p := ⟨gb281, 1, none⟩) (Kd.R_far (p := ⟨gb281, 0, none⟩) (Kd.R_far (p := ⟨gb280, 1, none⟩) (Kd.R_far (p := ⟨gb280, 0, none⟩) (Kd.R_types (Kd.R_types HO_294001.out BK280.out (by decide)) BK281.out (by decide)) (fun _ hk => hk.1.2) (.int .i64 t288)) (fun _ hk => hk.1.2) (.slice Ao80 x294001_6.length co80)) (fun _ hk => hk.2) (.int .i64 t317)) (fun _ hk => hk.2) (.slice Ao83 t318.length co83)) (fun _ hk => hk.1.1), by (with_reducible repeat (first | apply Kd.R_alloc | apply Kd.R_drewN | apply Kd.R_drew)); exact Kd.R_mono (Kd.R_far (p := ⟨gb281, 1, none⟩) (Kd.R_far (p := ⟨gb281, 0, none⟩) (Kd.R_far (p := ⟨gb280, 1, none⟩) (Kd.R_far (p := ⟨gb280, 0, none⟩) (Kd.R_types (Kd.R_types HO320.out BK280.out (by decide)) BK281.out (by decide)) (fun _ hk => hk.1.2) (.int .i64 t288)) (fun _ hk => hk.1.2) (.slice Ao80 x294001_6.length co80)) (fun _ hk => hk.2) (.int .i64 t317)) (fun _ hk => hk.2) (.slice Ao83 t318.length co83)) (fun _ hk => hk.1.1), by repeat (first | (with_reducible first | exact HI0.out | apply IsS161.alloc | apply IsS161.drewN | apply IsS161.drew | apply IsS161.set_1 | refine IsS161.far ?_ NB0_280.out _ | refine IsS161.far ?_ NB0_281.out _ | refine IsS161.far ?_ NB0_293.out _ | refine IsS161.far ?_ NB0_299.out _) | exact HI0.out), by repeat (first | (with_reducible first | exact HB.out | apply below_alloc | apply pw_below_drewN | apply below_drew1 | refine below_set ?_ (IsS161.ge HI0.out) | refine below_set ?_ GE280.out | refine below_set ?_ GE281.out | refine below_set ?_ GE293.out | refine below_set ?_ GE299.out) | exact HB.out), by repeat (first | (with_reducible first | exact HK.out | apply KeepBut.set_ | apply keep_drewN | apply keep_drew | apply keep_alloc | refine keep_far ?_ GW280.out _ | refine keep_far ?_ GW281.out _ | refine keep_far ?_ GW293.out _ | refine keep_far ?_ GW299.out _) | exact HK.out)⟩

end Go.Proofs.Ytkekcenlleebeaa.PFnGapsJoin
