/- Functions of the program as plain Lean functions, and that calls of them come to what these tell. Conditions: those in each law. -/
import Derived.Test.YtkekcenlleebeaaSq
import Derived.Test.YtkekcenlleebeaaDFnGapsJoin
import Derived.Test.YtkekcenlleebeaaQFnGapsJoinx0
import Derived.Test.YtkekcenlleebeaaQFnGapsJoinx1
import Derived.Test.YtkekcenlleebeaaQFnGapsJoinx5
import Derived.Test.YtkekcenlleebeaaQFnGapsJoinx10
namespace Go.Proofs.Ytkekcenlleebeaa.PFnGapsJoin
open Go.RowKit Go.Proofs.Ytkekcenlleebeaa.Sq Go.Proofs.YtkekcenlleebeaaW.PrintWords Go.Proofs.YtkekcenlleebeaaW.PrintLast Go.Proofs.YtkekcenlleebeaaW.PrintMore
attribute [local go_sem] max2_int min2_int max_two min_two max_three min_three max_four min_four   -- for this text's walks alone
set_option linter.unusedVariables false
set_option linter.unusedSimpArgs false

/-! ### spec_DrawGapsWiden: function 36 -/
theorem spec_DrawGapsWiden.mono : ∀ a0 k, LeO (spec_DrawGapsWiden.f k a0) (spec_DrawGapsWiden.f (k + 1) a0) := by
  intro a0 k
  unfold spec_DrawGapsWiden.f
  repeat' first
      | (with_reducible exact spec_l11Pair.mono _ _ _)
      | (with_reducible exact LeO.refl _)
      | (with_reducible exact LeO.none _)
      | (with_reducible refine LeO.ite ?_ ?_)
      | (with_reducible refine LeO.bind ?_ (fun _ => ?_))
      | exact spec_l11Pair.mono _ _ _
      | exact LeO.none _
      | refine LeO.ite ?_ ?_
      | refine LeO.bind ?_ (fun _ => ?_)
set_option maxHeartbeats 8000000 in
set_option maxRecDepth 100000 in
theorem spec_DrawGapsWiden.calls (k : Nat) (A0 : Option Addr) (c0 : Nat) (l0 : List Int) (r1 : Int) (r2 : List Int) (r3 : Int) (r4 : List Int) (w : World) (hr0 : Kd.C (Kd.int .u8) w A0 l0.length l0) (hc0 : l0.length ≤ c0) (h : spec_DrawGapsWiden.f k l0 = some (r1, r2, r3, r4)) :
    Calls Try.prog 36 #[.slice A0 l0.length c0] w fun e w' => ∃ v1_ v3_ : Value, e = .returned (.tuple #[.agg #[.int .i64 r1, v1_], .agg #[.int .i64 r3, v3_]]) ∧ Kd.R (Kd.int .i64) 3 w' w.heap.size (fun k_ => some k_ ≠ (v3_ : Value).ownBlock) v1_ r2 ∧ Kd.R (Kd.int .i64) 3 w' w.heap.size (fun k_ => some k_ ≠ (v1_ : Value).ownBlock) v3_ r4 ∧ Below w.heap.size w w' := by
  have hu41 := Try.underlying41
  have HR0 := Aside0.mk hr0
  have HC0 := Aside0.mk hc0
  clear hr0 hc0
  have HB := Aside0.mk (Below.refl w.heap.size w)
  have H : ((spec_l1Open.f l0).bind fun bt324 => ((spec_l11Pair.f k bt324.1 bt324.2).bind fun bt327 => (some (bt327.1, bt327.2.1, bt327.2.2.1, bt327.2.2.2.1)))) = some (r1, r2, r3, r4) := h
  clear h
  replace H := Option.bind_eq_some_iff.mp H
  obtain ⟨⟨t324, t325⟩, A20, H⟩ := H
  replace H : ((spec_l11Pair.f k t324 t325).bind fun bt327 => (some (bt327.1, bt327.2.1, bt327.2.2.1, bt327.2.2.2.1))) = some (r1, r2, r3, r4) := H
  have A2 := Aside0.mk A20
  clear A20
  replace H := Option.bind_eq_some_iff.mp H
  obtain ⟨⟨t327, t328, t331, t332, t335⟩, A30, H⟩ := H
  replace H : (some (t327, t328, t331, t332)) = some (r1, r2, r3, r4) := H
  have A3 := Aside0.mk A30
  clear A30
  simp only [Option.some.injEq, Prod.mk.injEq] at H
  obtain ⟨rfl, rfl, rfl, rfl⟩ := H
  go_enter Try.func36, Try.ntmps36
  try go_wp2_with (first | ((with_reducible refine gate_dst (N := 2) rfl ?_); refine sqx 2 #[.int .i64 0, .slice none 0 0] 41 ?_; intro gb322 hg w4 hbox hb; have BK322 := Aside0.mk (hbox); have GW322 := sqg HB hg; have GE322 := sqg HB hg; replace HB := sqs HB hb; clear hb hbox hg) | ((with_reducible refine gate_dst (N := 3) rfl ?_); refine sqx 3 #[.int .i64 0, .slice none 0 0] 41 ?_; intro gb323 hg w5 hbox hb; have BK323 := Aside0.mk (hbox); have GW323 := sqg HB hg; have GE323 := sqg HB hg; have NB322_323 := sqn BK322 hg; have NB323_322 := sqm BK322 hg; replace BK322 := sqb BK322 hb; replace HB := sqs HB hb; clear hb hbox hg) | ((with_reducible refine gate_callee (f := 92) rfl ?_); refine sqL (some 8) Try.func92 #[.slice A0 l0.length c0] ?_; (with_reducible refine (spec_l1Open.calls _ _ l0 t324 t325 w _ ?side1 ?side2 ?side3 A2.out).mono ?_); (case side1 => repeat (first | (with_reducible first | exact HB.out | apply below_alloc | apply pw_below_drewN | apply below_drew1 | refine below_set ?_ GE322.out | refine below_set ?_ GE323.out) | exact HB.out)); (case side2 => exact HR0.out); (case side3 => exact HC0.out); rintro e w6 ⟨g326, rfl, hi, hb, hb2⟩; refine ⟨_, rfl, ?_⟩; have n0_ := Aside0.mk (blk_below (g := gb322) (o := .cells #[.int .i64 0, .slice none 0 0] 41 (0, 0)) (by refine sqt ?_; exact BK322.out) hb2); have n1_ := Aside0.mk (blk_below (g := gb323) (o := .cells #[.int .i64 0, .slice none 0 0] 41 (0, 0)) (by refine sqt ?_; exact BK323.out) hb2); have n2_ := Aside0.mk (hb); have n3_ := Aside0.mk (hi); have n4_ := Aside0.mk (IsS161.ne_blk hi (blk_below (g := gb322) (o := .cells #[.int .i64 0, .slice none 0 0] 41 (0, 0)) (by refine sqt ?_; exact BK322.out) hb2) (by decide)); have n5_ := Aside0.mk (Ne.symm (IsS161.ne_blk hi (blk_below (g := gb322) (o := .cells #[.int .i64 0, .slice none 0 0] 41 (0, 0)) (by refine sqt ?_; exact BK322.out) hb2) (by decide))); have n6_ := Aside0.mk (IsS161.ne_blk hi (blk_below (g := gb323) (o := .cells #[.int .i64 0, .slice none 0 0] 41 (0, 0)) (by refine sqt ?_; exact BK323.out) hb2) (by decide)); have n7_ := Aside0.mk (Ne.symm (IsS161.ne_blk hi (blk_below (g := gb323) (o := .cells #[.int .i64 0, .slice none 0 0] 41 (0, 0)) (by refine sqt ?_; exact BK323.out) hb2) (by decide))); clear BK322; clear BK323; clear HB; have BK322 := n0_; have BK323 := n1_; have HB := n2_; have HI326 := n3_; have NB326_322 := n4_; have NB322_326 := n5_; have NB326_323 := n6_; have NB323_326 := n7_; clear n0_ n1_ n2_ n3_ n4_ n5_ n6_ n7_; (try clear hb); (try clear hb2); (try clear hk); (try clear hi)) | ((with_reducible refine gate_callee (f := 123) rfl ?_); refine sqL (some 11) Try.func123 #[.pointer (some ⟨g326, 0, none⟩)] ?_; (with_reducible refine (spec_l11Pair.calls k g326 t324 t325 t327 t328 t331 t332 t335 w _ ?side1 ?side2 A3.out).mono ?_); (case side1 => repeat (first | (with_reducible first | exact HI326.out | apply IsS161.alloc | apply IsS161.drewN | apply IsS161.drew | apply IsS161.set_1 | refine IsS161.far ?_ NB326_322.out _ | refine IsS161.far ?_ NB326_323.out _) | exact HI326.out)); (case side2 => repeat (first | (with_reducible first | exact HB.out | apply below_alloc | apply pw_below_drewN | apply below_drew1 | refine below_set ?_ (IsS161.ge HI326.out) | refine below_set ?_ GE322.out | refine below_set ?_ GE323.out) | exact HB.out)); rintro e w7 ⟨v329, v333, rfl, ho0, ho1, hi, hb, hk⟩; refine ⟨_, rfl, ?_⟩; have n0_ := Aside0.mk (KeepBut.blk hk (g' := gb322) (o := .cells #[.int .i64 0, .slice none 0 0] 41 (0, 0)) (by refine sqt ?_; exact BK322.out) NB322_326.out (by simp)); have n1_ := Aside0.mk (KeepBut.blk hk (g' := gb323) (o := .cells #[.int .i64 0, .slice none 0 0] 41 (0, 0)) (by refine sqt ?_; exact BK323.out) NB323_326.out (by simp)); have n2_ := Aside0.mk (Kd.R_lower ho0 (below_size (by repeat (first | (with_reducible first | exact HB.out | apply below_alloc | apply pw_below_drewN | apply below_drew1 | refine below_set ?_ (IsS161.ge HI326.out) | refine below_set ?_ GE322.out | refine below_set ?_ GE323.out) | exact HB.out)))); have n3_ := Aside0.mk (Kd.R_lower ho1 (below_size (by repeat (first | (with_reducible first | exact HB.out | apply below_alloc | apply pw_below_drewN | apply below_drew1 | refine below_set ?_ (IsS161.ge HI326.out) | refine below_set ?_ GE322.out | refine below_set ?_ GE323.out) | exact HB.out)))); have n4_ := Aside0.mk (hb); have n5_ := Aside0.mk (hi); clear BK322; clear BK323; clear HB; clear HI326; have BK322 := n0_; have BK323 := n1_; have HO330 := n2_; have HO334 := n3_; have HB := n4_; have HI326 := n5_; clear n0_ n1_ n2_ n3_ n4_ n5_; (try clear hb); (try clear hb2); (try clear hk); (try clear hi); (try clear ho0); (try clear ho1)) | ((with_reducible refine gate_dst (N := 5) rfl ?_); refine sqx 5 #[.int .i64 0, .slice none 0 0] 41 ?_; intro gb336 hg w8 hbox hb; have n0_ := Aside0.mk (Kd.R_below (by (with_reducible repeat (first | apply Kd.R_alloc | apply Kd.R_drewN | apply Kd.R_drew)); exact HO330.out) hb); have n1_ := Aside0.mk (Kd.R_below (by (with_reducible repeat (first | apply Kd.R_alloc | apply Kd.R_drewN | apply Kd.R_drew)); exact HO334.out) hb); have n2_ := sqb BK322 hb; have n3_ := sqb BK323 hb; have n4_ := Aside0.mk (IsS161.below (by repeat (first | (with_reducible first | exact HI326.out | apply IsS161.alloc | apply IsS161.drewN | apply IsS161.drew | apply IsS161.set_1 | refine IsS161.far ?_ NB326_322.out _ | refine IsS161.far ?_ NB326_323.out _) | exact HI326.out)) hb); have n5_ := Aside0.mk (below_step (by repeat (first | (with_reducible first | exact HB.out | apply below_alloc | apply pw_below_drewN | apply below_drew1 | refine below_set ?_ (IsS161.ge HI326.out) | refine below_set ?_ GE322.out | refine below_set ?_ GE323.out) | exact HB.out)) hb); have n6_ := Aside0.mk (hbox); have n7_ := Aside0.mk ((by rw [hg]; exact (below_size (by repeat (first | (with_reducible first | exact HB.out | apply below_alloc | apply pw_below_drewN | apply below_drew1 | refine below_set ?_ (IsS161.ge HI326.out) | refine below_set ?_ GE322.out | refine below_set ?_ GE323.out) | exact HB.out))) : w.heap.size ≤ gb336)); have n8_ := Aside0.mk ((by rw [hg]; exact (below_size (by repeat (first | (with_reducible first | exact HB.out | apply below_alloc | apply pw_below_drewN | apply below_drew1 | refine below_set ?_ (IsS161.ge HI326.out) | refine below_set ?_ GE322.out | refine below_set ?_ GE323.out) | exact HB.out))) : w.heap.size ≤ gb336)); have n9_ := sqn BK322 hg; have n10_ := sqm BK322 hg; have n11_ := sqn BK323 hg; have n12_ := sqm BK323 hg; have n13_ := Aside0.mk ((by rw [hg]; exact Nat.ne_of_lt (IsS161.lt (show IsS161 w _ g326 t324 t335 from by repeat (first | (with_reducible first | exact HI326.out | apply IsS161.alloc | apply IsS161.drewN | apply IsS161.drew | apply IsS161.set_1 | refine IsS161.far ?_ NB326_322.out _ | refine IsS161.far ?_ NB326_323.out _) | exact HI326.out))) : g326 ≠ gb336)); have n14_ := Aside0.mk ((by rw [hg]; exact Nat.ne_of_gt (IsS161.lt (show IsS161 w _ g326 t324 t335 from by repeat (first | (with_reducible first | exact HI326.out | apply IsS161.alloc | apply IsS161.drewN | apply IsS161.drew | apply IsS161.set_1 | refine IsS161.far ?_ NB326_322.out _ | refine IsS161.far ?_ NB326_323.out _) | exact HI326.out))) : gb336 ≠ g326)); clear HO330; clear HO334; clear BK322; clear BK323; clear HI326; clear HB; have HO330 := n0_; have HO334 := n1_; have BK322 := n2_; have BK323 := n3_; have HI326 := n4_; have HB := n5_; have BK336 := n6_; have GW336 := n7_; have GE336 := n8_; have NB322_336 := n9_; have NB336_322 := n10_; have NB323_336 := n11_; have NB336_323 := n12_; have NB326_336 := n13_; have NB336_326 := n14_; clear n0_ n1_ n2_ n3_ n4_ n5_ n6_ n7_ n8_ n9_ n10_ n11_ n12_ n13_ n14_; clear hb hbox hg) | ((with_reducible refine gate_dst (N := 6) rfl ?_); refine sqx 6 #[.int .i64 0, .slice none 0 0] 41 ?_; intro gb337 hg w9 hbox hb; have n0_ := Aside0.mk (Kd.R_below (by (with_reducible repeat (first | apply Kd.R_alloc | apply Kd.R_drewN | apply Kd.R_drew)); exact HO330.out) hb); have n1_ := Aside0.mk (Kd.R_below (by (with_reducible repeat (first | apply Kd.R_alloc | apply Kd.R_drewN | apply Kd.R_drew)); exact HO334.out) hb); have n2_ := sqb BK322 hb; have n3_ := sqb BK323 hb; have n4_ := Aside0.mk (IsS161.below (by repeat (first | (with_reducible first | exact HI326.out | apply IsS161.alloc | apply IsS161.drewN | apply IsS161.drew | apply IsS161.set_1 | refine IsS161.far ?_ NB326_322.out _ | refine IsS161.far ?_ NB326_323.out _ | refine IsS161.far ?_ NB326_336.out _) | exact HI326.out)) hb); have n5_ := sqb BK336 hb; have n6_ := Aside0.mk (below_step (by repeat (first | (with_reducible first | exact HB.out | apply below_alloc | apply pw_below_drewN | apply below_drew1 | refine below_set ?_ (IsS161.ge HI326.out) | refine below_set ?_ GE322.out | refine below_set ?_ GE323.out | refine below_set ?_ GE336.out) | exact HB.out)) hb); have n7_ := Aside0.mk (hbox); have n8_ := Aside0.mk ((by rw [hg]; exact (below_size (by repeat (first | (with_reducible first | exact HB.out | apply below_alloc | apply pw_below_drewN | apply below_drew1 | refine below_set ?_ (IsS161.ge HI326.out) | refine below_set ?_ GE322.out | refine below_set ?_ GE323.out | refine below_set ?_ GE336.out) | exact HB.out))) : w.heap.size ≤ gb337)); have n9_ := Aside0.mk ((by rw [hg]; exact (below_size (by repeat (first | (with_reducible first | exact HB.out | apply below_alloc | apply pw_below_drewN | apply below_drew1 | refine below_set ?_ (IsS161.ge HI326.out) | refine below_set ?_ GE322.out | refine below_set ?_ GE323.out | refine below_set ?_ GE336.out) | exact HB.out))) : w.heap.size ≤ gb337)); have n10_ := sqn BK322 hg; have n11_ := sqm BK322 hg; have n12_ := sqn BK323 hg; have n13_ := sqm BK323 hg; have n14_ := sqn BK336 hg; have n15_ := sqm BK336 hg; have n16_ := Aside0.mk ((by rw [hg]; exact Nat.ne_of_lt (IsS161.lt (show IsS161 w _ g326 t324 t335 from by repeat (first | (with_reducible first | exact HI326.out | apply IsS161.alloc | apply IsS161.drewN | apply IsS161.drew | apply IsS161.set_1 | refine IsS161.far ?_ NB326_322.out _ | refine IsS161.far ?_ NB326_323.out _ | refine IsS161.far ?_ NB326_336.out _) | exact HI326.out))) : g326 ≠ gb337)); have n17_ := Aside0.mk ((by rw [hg]; exact Nat.ne_of_gt (IsS161.lt (show IsS161 w _ g326 t324 t335 from by repeat (first | (with_reducible first | exact HI326.out | apply IsS161.alloc | apply IsS161.drewN | apply IsS161.drew | apply IsS161.set_1 | refine IsS161.far ?_ NB326_322.out _ | refine IsS161.far ?_ NB326_323.out _ | refine IsS161.far ?_ NB326_336.out _) | exact HI326.out))) : gb337 ≠ g326)); clear HO330; clear HO334; clear BK322; clear BK323; clear HI326; clear BK336; clear HB; have HO330 := n0_; have HO334 := n1_; have BK322 := n2_; have BK323 := n3_; have HI326 := n4_; have BK336 := n5_; have HB := n6_; have BK337 := n7_; have GW337 := n8_; have GE337 := n9_; have NB322_337 := n10_; have NB337_322 := n11_; have NB323_337 := n12_; have NB337_323 := n13_; have NB336_337 := n14_; have NB337_336 := n15_; have NB326_337 := n16_; have NB337_326 := n17_; clear n0_ n1_ n2_ n3_ n4_ n5_ n6_ n7_ n8_ n9_ n10_ n11_ n12_ n13_ n14_ n15_ n16_ n17_; clear hb hbox hg; have hnb10 := NB336_322.out; have hnc10 := NB322_336.out; have hnb11 := NB336_323.out; have hnc11 := NB323_336.out; have hnb12 := NB336_337.out; have hnc12 := NB337_336.out; have hnb13 := NB336_326.out; have hnc13 := NB326_336.out; obtain ⟨hcz14_0, hcz14_1, hfz14_0, hfz14_1⟩ := sqc2 BK336; obtain ⟨Ao15, co15, eo15⟩ := Kd.R_slice HO330.out; subst eo15; have hnb16 := NB337_322.out; have hnc16 := NB322_337.out; have hnb17 := NB337_323.out; have hnc17 := NB323_337.out; have hnb18 := NB337_326.out; have hnc18 := NB326_337.out; obtain ⟨hcz19_0, hcz19_1, hfz19_0, hfz19_1⟩ := sqc2 BK337; obtain ⟨Ao20, co20, eo20⟩ := Kd.R_slice HO334.out; subst eo20))
  have n0_ : Aside0 (Kd.R (Kd.int .i64) 3 ((((w9.setCell ⟨gb336, 0, none⟩ (.int .i64 t327)).setCell ⟨gb336, 1, none⟩ (.slice Ao15 t328.length co15)).setCell ⟨gb337, 0, none⟩ (.int .i64 t331)).setCell ⟨gb337, 1, none⟩ (.slice Ao20 t332.length co20)) w.heap.size (fun k_ => some k_ ≠ (.slice Ao20 t332.length co20 : Value).ownBlock) (.slice Ao15 t328.length co15) t328) := ⟨by (with_reducible repeat (first | apply Kd.R_alloc | apply Kd.R_drewN | apply Kd.R_drew)); exact Kd.R_mono (Kd.R_far (p := ⟨gb337, 1, none⟩) (Kd.R_far (p := ⟨gb337, 0, none⟩) (Kd.R_far (p := ⟨gb336, 1, none⟩) (Kd.R_far (p := ⟨gb336, 0, none⟩) (Kd.R_types (Kd.R_types HO330.out BK336.out (by decide)) BK337.out (by decide)) (fun _ hk => hk.1.2) (.int .i64 t327)) (fun _ hk => hk.1.2) (.slice Ao15 t328.length co15)) (fun _ hk => hk.2) (.int .i64 t331)) (fun _ hk => hk.2) (.slice Ao20 t332.length co20)) (fun _ hk => hk.1.1)⟩
  have n1_ : Aside0 (Kd.R (Kd.int .i64) 3 ((((w9.setCell ⟨gb336, 0, none⟩ (.int .i64 t327)).setCell ⟨gb336, 1, none⟩ (.slice Ao15 t328.length co15)).setCell ⟨gb337, 0, none⟩ (.int .i64 t331)).setCell ⟨gb337, 1, none⟩ (.slice Ao20 t332.length co20)) w.heap.size (fun k_ => some k_ ≠ (.slice Ao15 t328.length co15 : Value).ownBlock) (.slice Ao20 t332.length co20) t332) := ⟨by (with_reducible repeat (first | apply Kd.R_alloc | apply Kd.R_drewN | apply Kd.R_drew)); exact Kd.R_mono (Kd.R_far (p := ⟨gb337, 1, none⟩) (Kd.R_far (p := ⟨gb337, 0, none⟩) (Kd.R_far (p := ⟨gb336, 1, none⟩) (Kd.R_far (p := ⟨gb336, 0, none⟩) (Kd.R_types (Kd.R_types HO334.out BK336.out (by decide)) BK337.out (by decide)) (fun _ hk => hk.1.2) (.int .i64 t327)) (fun _ hk => hk.1.2) (.slice Ao15 t328.length co15)) (fun _ hk => hk.2) (.int .i64 t331)) (fun _ hk => hk.2) (.slice Ao20 t332.length co20)) (fun _ hk => hk.1.1)⟩
  have n2_ : Aside0 (((((w9.setCell ⟨gb336, 0, none⟩ (.int .i64 t327)).setCell ⟨gb336, 1, none⟩ (.slice Ao15 t328.length co15)).setCell ⟨gb337, 0, none⟩ (.int .i64 t331)).setCell ⟨gb337, 1, none⟩ (.slice Ao20 t332.length co20)).heap[gb322]? = some (.cells #[.int .i64 0, .slice none 0 0] 41 (0, 0))) := ⟨by refine sqt ?_; refine blk_far ?_ NB322_337.out _; refine sqt ?_; refine blk_far ?_ NB322_337.out _; refine sqt ?_; refine blk_far ?_ NB322_336.out _; refine sqt ?_; refine blk_far ?_ NB322_336.out _; refine sqt ?_; exact BK322.out⟩
  have n3_ : Aside0 (((((w9.setCell ⟨gb336, 0, none⟩ (.int .i64 t327)).setCell ⟨gb336, 1, none⟩ (.slice Ao15 t328.length co15)).setCell ⟨gb337, 0, none⟩ (.int .i64 t331)).setCell ⟨gb337, 1, none⟩ (.slice Ao20 t332.length co20)).heap[gb323]? = some (.cells #[.int .i64 0, .slice none 0 0] 41 (0, 0))) := ⟨by refine sqt ?_; refine blk_far ?_ NB323_337.out _; refine sqt ?_; refine blk_far ?_ NB323_337.out _; refine sqt ?_; refine blk_far ?_ NB323_336.out _; refine sqt ?_; refine blk_far ?_ NB323_336.out _; refine sqt ?_; exact BK323.out⟩
  have n4_ : Aside0 (((((w9.setCell ⟨gb336, 0, none⟩ (.int .i64 t327)).setCell ⟨gb336, 1, none⟩ (.slice Ao15 t328.length co15)).setCell ⟨gb337, 0, none⟩ (.int .i64 t331)).setCell ⟨gb337, 1, none⟩ (.slice Ao20 t332.length co20)).heap[gb336]? = some (.cells #[.int .i64 t327, .slice Ao15 t328.length co15] 41 (0, 0))) := ⟨by refine sqt ?_; refine blk_far ?_ NB336_337.out _; refine sqt ?_; refine blk_far ?_ NB336_337.out _; refine sqt ?_; refine blk_put (cs := #[.int .i64 t327, .slice none 0 0]) ?_ 1 _ rfl; refine sqt ?_; refine blk_put (cs := #[.int .i64 0, .slice none 0 0]) ?_ 0 _ rfl; refine sqt ?_; exact BK336.out⟩
  have n5_ : Aside0 (((((w9.setCell ⟨gb336, 0, none⟩ (.int .i64 t327)).setCell ⟨gb336, 1, none⟩ (.slice Ao15 t328.length co15)).setCell ⟨gb337, 0, none⟩ (.int .i64 t331)).setCell ⟨gb337, 1, none⟩ (.slice Ao20 t332.length co20)).heap[gb337]? = some (.cells #[.int .i64 t331, .slice Ao20 t332.length co20] 41 (0, 0))) := ⟨by refine sqt ?_; refine blk_put (cs := #[.int .i64 t331, .slice none 0 0]) ?_ 1 _ rfl; refine sqt ?_; refine blk_put (cs := #[.int .i64 0, .slice none 0 0]) ?_ 0 _ rfl; refine sqt ?_; refine blk_far ?_ NB337_336.out _; refine sqt ?_; refine blk_far ?_ NB337_336.out _; refine sqt ?_; exact BK337.out⟩
  have n6_ : Aside0 (IsS161 w ((((w9.setCell ⟨gb336, 0, none⟩ (.int .i64 t327)).setCell ⟨gb336, 1, none⟩ (.slice Ao15 t328.length co15)).setCell ⟨gb337, 0, none⟩ (.int .i64 t331)).setCell ⟨gb337, 1, none⟩ (.slice Ao20 t332.length co20)) g326 t324 t335) := ⟨by repeat (first | (with_reducible first | exact HI326.out | apply IsS161.alloc | apply IsS161.drewN | apply IsS161.drew | apply IsS161.set_1 | refine IsS161.far ?_ NB326_322.out _ | refine IsS161.far ?_ NB326_323.out _ | refine IsS161.far ?_ NB326_336.out _ | refine IsS161.far ?_ NB326_337.out _) | exact HI326.out)⟩
  have n7_ : Aside0 (Below w.heap.size w ((((w9.setCell ⟨gb336, 0, none⟩ (.int .i64 t327)).setCell ⟨gb336, 1, none⟩ (.slice Ao15 t328.length co15)).setCell ⟨gb337, 0, none⟩ (.int .i64 t331)).setCell ⟨gb337, 1, none⟩ (.slice Ao20 t332.length co20))) := ⟨by repeat (first | (with_reducible first | exact HB.out | apply below_alloc | apply pw_below_drewN | apply below_drew1 | refine below_set ?_ (IsS161.ge HI326.out) | refine below_set ?_ GE322.out | refine below_set ?_ GE323.out | refine below_set ?_ GE336.out | refine below_set ?_ GE337.out) | exact HB.out)⟩
  (try clear HO330)
  (try clear HO334)
  (try clear BK322)
  (try clear BK323)
  (try clear BK336)
  (try clear BK337)
  (try clear HI326)
  (try clear HB)
  generalize ((((w9.setCell ⟨gb336, 0, none⟩ (.int .i64 t327)).setCell ⟨gb336, 1, none⟩ (.slice Ao15 t328.length co15)).setCell ⟨gb337, 0, none⟩ (.int .i64 t331)).setCell ⟨gb337, 1, none⟩ (.slice Ao20 t332.length co20)) = w21 at n0_ n1_ n2_ n3_ n4_ n5_ n6_ n7_ ⊢
  have HO330 := n0_
  have HO334 := n1_
  have BK322 := n2_
  have BK323 := n3_
  have BK336 := n4_
  have BK337 := n5_
  have HI326 := n6_
  have HB := n7_
  clear n0_ n1_ n2_ n3_ n4_ n5_ n6_ n7_
  replace HO330 := Aside0.mk (Kd.R_drew HO330.out)
  replace HO334 := Aside0.mk (Kd.R_drew HO334.out)
  replace BK322 := Aside0.mk (blk_drew BK322.out)
  replace BK323 := Aside0.mk (blk_drew BK323.out)
  replace BK336 := Aside0.mk (blk_drew BK336.out)
  replace BK337 := Aside0.mk (blk_drew BK337.out)
  replace HI326 := Aside0.mk (IsS161.drew HI326.out)
  replace HB := Aside0.mk (below_drew1 HB.out)
  refine start_ (n := 4) (S := fun w' => w'.cell? ⟨gb336, 0, none⟩ = some (.int .i64 t327) ∧ w'.cell? ⟨gb336, 1, none⟩ = some (.slice Ao15 t328.length co15) ∧ w'.cell? ⟨gb337, 0, none⟩ = some (.int .i64 t331) ∧ w'.cell? ⟨gb337, 1, none⟩ = some (.slice Ao20 t332.length co20)) (ds := []) #[false, false, false, false] (by kernel_rfl) rfl rfl ⟨(blk_cell BK336.out 0).trans rfl, (blk_cell BK336.out 1).trans rfl, (blk_cell BK337.out 0).trans rfl, (blk_cell BK337.out 1).trans rfl⟩ (fun hHeld => ?_)
  generalize w21.drew = w22 at HO330 HO334 BK322 BK323 BK336 BK337 HI326 HB hHeld ⊢
  refine take_ (i := 0) (N := some 14) (v := ?_) (a' := ?_) #[true, false, false, false] rfl rfl (by kernel_rfl) (fun _ _ _ h => h) (Or.inl ⟨by rfl, ?_⟩) hHeld ?_ ?_
  rotate_left
  · rintro w' ⟨s0, s1, s2, s3⟩
    go_simp
    with_reducible rfl
  rotate_left
  · simp only [Act.put, List.setIfInBounds_toArray, List.set_cons_zero, List.set_cons_succ, i64_w, i32_w]
    rfl
  refine take_ (i := 1) (N := some 15) (v := ?_) (a' := ?_) #[true, true, false, false] rfl rfl (by kernel_rfl) (fun _ _ _ h => h) (Or.inl ⟨by rfl, ?_⟩) hHeld ?_ ?_
  rotate_left
  · rintro w' ⟨s0, s1, s2, s3⟩
    go_simp
    with_reducible rfl
  rotate_left
  · simp only [Act.put, List.setIfInBounds_toArray, List.set_cons_zero, List.set_cons_succ, i64_w, i32_w]
    rfl
  refine one_ (i := 2) (N := none) #[true, true, true, false] rfl rfl (by kernel_rfl) (by decide) (fun K hK => ?_)
  have hs23 : w22.cell? ⟨gb322, 0, none⟩ = some (.int .i64 0) := (blk_cell BK322.out 0).trans rfl
  have hfs23 := blk_frozen BK322.out 0
  have hns23_1 := NB323_322.out
  have hns23_2 := NB336_322.out
  have hns23_3 := NB337_322.out
  have hms23_1 := NB322_323.out
  have hms23_2 := NB322_336.out
  have hms23_3 := NB322_337.out
  have hs24 : w22.cell? ⟨gb322, 1, none⟩ = some (.slice none 0 0) := (blk_cell BK322.out 1).trans rfl
  have hfs24 := blk_frozen BK322.out 1
  have hns24_1 := NB323_322.out
  have hns24_2 := NB336_322.out
  have hns24_3 := NB337_322.out
  have hms24_1 := NB322_323.out
  have hms24_2 := NB322_336.out
  have hms24_3 := NB322_337.out
  refine skip_ (w1 := ?_) (by rfl) rfl ?_ ?_
  rotate_left
  · go_simp
    rfl
  refine hK.out _ _ ⟨((cell_far (p := ⟨gb322, _, none⟩) NB336_322.out _).trans (((cell_far (p := ⟨gb322, _, none⟩) NB336_322.out _).trans (hHeld.1)))), ((cell_far (p := ⟨gb322, _, none⟩) NB336_322.out _).trans (((cell_far (p := ⟨gb322, _, none⟩) NB336_322.out _).trans (hHeld.2.1)))), ((cell_far (p := ⟨gb322, _, none⟩) NB337_322.out _).trans (((cell_far (p := ⟨gb322, _, none⟩) NB337_322.out _).trans (hHeld.2.2.1)))), ((cell_far (p := ⟨gb322, _, none⟩) NB337_322.out _).trans (((cell_far (p := ⟨gb322, _, none⟩) NB337_322.out _).trans (hHeld.2.2.2))))⟩ (fun hHeld => ?_)
  clear hK K
  refine one_ (i := 3) (N := none) #[true, true, true, true] rfl rfl (by kernel_rfl) (by decide) (fun K hK => ?_)
  have hs25 : w22.cell? ⟨gb323, 0, none⟩ = some (.int .i64 0) := (blk_cell BK323.out 0).trans rfl
  have hfs25 := blk_frozen BK323.out 0
  have hns25_0 := NB322_323.out
  have hns25_2 := NB336_323.out
  have hns25_3 := NB337_323.out
  have hms25_0 := NB323_322.out
  have hms25_2 := NB323_336.out
  have hms25_3 := NB323_337.out
  have hs26 : w22.cell? ⟨gb323, 1, none⟩ = some (.slice none 0 0) := (blk_cell BK323.out 1).trans rfl
  have hfs26 := blk_frozen BK323.out 1
  have hns26_0 := NB322_323.out
  have hns26_2 := NB336_323.out
  have hns26_3 := NB337_323.out
  have hms26_0 := NB323_322.out
  have hms26_2 := NB323_336.out
  have hms26_3 := NB323_337.out
  refine skip_ (w1 := ?_) (by rfl) rfl ?_ ?_
  rotate_left
  · go_simp
    rfl
  refine hK.out _ _ ⟨((cell_far (p := ⟨gb323, _, none⟩) NB336_323.out _).trans (((cell_far (p := ⟨gb323, _, none⟩) NB336_323.out _).trans (hHeld.1)))), ((cell_far (p := ⟨gb323, _, none⟩) NB336_323.out _).trans (((cell_far (p := ⟨gb323, _, none⟩) NB336_323.out _).trans (hHeld.2.1)))), ((cell_far (p := ⟨gb323, _, none⟩) NB337_323.out _).trans (((cell_far (p := ⟨gb323, _, none⟩) NB337_323.out _).trans (hHeld.2.2.1)))), ((cell_far (p := ⟨gb323, _, none⟩) NB337_323.out _).trans (((cell_far (p := ⟨gb323, _, none⟩) NB337_323.out _).trans (hHeld.2.2.2))))⟩ (fun hHeld => ?_)
  clear hK K
  refine done_ (by kernel_rfl) ?_
  try go_wp2
  refine bodyPost_ret (results_cc rfl _ _ gb322 gb323 41 41 #[.int .i64 t327, .slice Ao15 t328.length co15] #[.int .i64 t331, .slice Ao20 t332.length co20] (0, 0) (0, 0) _ _ rfl (by refine sqt ?_; refine blk_far ?_ NB322_323.out _; refine sqt ?_; refine blk_far ?_ NB322_323.out _; refine sqt ?_; refine blk_put (cs := #[.int .i64 t327, .slice none 0 0]) ?_ 1 _ rfl; refine sqt ?_; refine blk_put (cs := #[.int .i64 0, .slice none 0 0]) ?_ 0 _ rfl; refine sqt ?_; exact BK322.out) Try.underlying41 rfl (by kernel_rfl) rfl (by refine sqt ?_; refine blk_put (cs := #[.int .i64 t331, .slice none 0 0]) ?_ 1 _ rfl; refine sqt ?_; refine blk_put (cs := #[.int .i64 0, .slice none 0 0]) ?_ 0 _ rfl; refine sqt ?_; refine blk_far ?_ NB323_322.out _; refine sqt ?_; refine blk_far ?_ NB323_322.out _; refine sqt ?_; exact BK323.out) Try.underlying41 rfl (by kernel_rfl)) rfl ?_
  exact ⟨_, _, by first | rfl | (simp [errW_none, errW_some] <;> rfl) | (simp [*, errW_none, errW_some] <;> rfl), by (with_reducible repeat (first | apply Kd.R_alloc | apply Kd.R_drewN | apply Kd.R_drew)); exact Kd.R_mono (Kd.R_far (p := ⟨gb323, 1, none⟩) (Kd.R_far (p := ⟨gb323, 0, none⟩) (Kd.R_far (p := ⟨gb322, 1, none⟩) (Kd.R_far (p := ⟨gb322, 0, none⟩) (Kd.R_types (Kd.R_types HO330.out BK322.out (by decide)) BK323.out (by decide)) (fun _ hk => hk.1.2) (.int .i64 t327)) (fun _ hk => hk.1.2) (.slice Ao15 t328.length co15)) (fun _ hk => hk.2) (.int .i64 t331)) (fun _ hk => hk.2) (.slice Ao20 t332.length co20)) (fun _ hk => hk.1.1), by (with_reducible repeat (first | apply Kd.R_alloc | apply Kd.R_drewN | apply Kd.R_drew)); exact Kd.R_mono (Kd.R_far (p := ⟨gb323, 1, none⟩) (Kd.R_far (p := ⟨gb323, 0, none⟩) (Kd.R_far (p := ⟨gb322, 1, none⟩) (Kd.R_far (p := ⟨gb322, 0, none⟩) (Kd.R_types (Kd.R_types HO334.out BK322.out (by decide)) BK323.out (by decide)) (fun _ hk => hk.1.2) (.int .i64 t327)) (fun _ hk => hk.1.2) (.slice Ao15 t328.length co15)) (fun _ hk => hk.2) (.int .i64 t331)) (fun _ hk => hk.2) (.slice Ao20 t332.length co20)) (fun _ hk => hk.1.1), by repeat (first | (with_reducible first | exact HB.out | apply below_alloc | apply pw_below_drewN | apply below_drew1 | refine below_set ?_ (IsS161.ge HI326.out) | refine below_set ?_ GE322.out | refine below_set ?_ GE323.out | refine below_set ?_ GE336.out | refine below_set ?_ GE337.out) | exact HB.out)⟩

/-! ### impl_Gaps_clone: function 111 -/
set_option maxHeartbeats 8000000 in
set_option maxRecDepth 100000 in
theorem impl_Gaps_clone.calls (a0_0 : Int) (A0_1 : Option Addr) (c0_1 : Nat) (l0_1 : List Int) (r1 : Int) (r2 : List Int) (w : World) (hr0_1 : Kd.C (Kd.int .i64) w A0_1 l0_1.length l0_1) (hc0_1 : l0_1.length ≤ c0_1) (h : impl_Gaps_clone.f a0_0 l0_1 = some (r1, r2)) :
    Calls Try.prog 111 #[.agg #[.int .i64 a0_0, .slice A0_1 l0_1.length c0_1]] w fun e w' => ∃ v1_ : Value, e = .returned (.agg #[.int .i64 r1, v1_]) ∧ Kd.R (Kd.int .i64) 3 w' w.heap.size (fun _ => True) v1_ r2 ∧ Below w.heap.size w w' := by
  have hu41 := Try.underlying41
  have HR0_1 := Aside0.mk hr0_1
  have HC0_1 := Aside0.mk hc0_1
  clear hr0_1 hc0_1
  have HB := Aside0.mk (Below.refl w.heap.size w)
  have H : (if ([] : List Int).length + l0_1.length < 17592186044416 then (some (a0_0, (([] : List Int) ++ l0_1))) else (none)) = some (r1, r2) := h
  clear h
  by_cases c2 : ([] : List Int).length + l0_1.length < 17592186044416
  · rw [if_pos c2] at H
    have LMc2 := Aside0.mk c2
    clear c2
    obtain ⟨y340, hy340⟩ : ∃ y_ : List Int, y_ = (([] : List Int) ++ l0_1) := ⟨_, rfl⟩
    replace H : (some (a0_0, y340)) = some (r1, r2) := by first | (rw [hy340]; with_reducible exact H) | (have H2_ := (Option.bind_some _ _).symm.trans H; rw [hy340]; with_reducible exact H2_) | (have H2_ := (Option.bind_some _ _).symm.trans H; with_reducible exact H2_) | with_reducible exact H | (rw [hy340]; exact H) | exact H
    have Ny340 := Aside0.mk hy340
    clear hy340
    simp only [Option.some.injEq, Prod.mk.injEq] at H
    obtain ⟨rfl, rfl⟩ := H
    go_enter Try.func111, Try.ntmps111
    try go_wp2_with (first | ((with_reducible refine gate_dst (N := 1) rfl ?_); refine sqx 1 #[.int .i64 a0_0, .slice A0_1 l0_1.length c0_1] 41 ?_; intro gb338 hg w3 hbox hb; have BK338 := Aside0.mk (hbox); have GW338 := sqg HB hg; have GE338 := sqg HB hg; replace HB := sqs HB hb; clear hb hbox hg) | ((with_reducible refine gate_dst (N := 2) rfl ?_); refine sqx 2 #[.int .i64 0, .slice none 0 0] 41 ?_; intro gb339 hg w4 hbox hb; have BK339 := Aside0.mk (hbox); have GW339 := sqg HB hg; have GE339 := sqg HB hg; have NB338_339 := sqn BK338 hg; have NB339_338 := sqm BK338 hg; replace BK338 := sqb BK338 hb; replace HB := sqs HB hb; clear hb hbox hg))
    replace BK338 := Aside0.mk (blk_drew BK338.out)
    replace BK339 := Aside0.mk (blk_drew BK339.out)
    replace HB := Aside0.mk (below_drew1 HB.out)
    refine start_ (n := 7) (S := fun w' => w'.cell? ⟨gb338, 0, none⟩ = some (.int .i64 a0_0) ∧ w'.cell? ⟨gb338, 1, none⟩ = some (.slice A0_1 l0_1.length c0_1)) (ds := []) #[false, false, false, false, false, false, false] (by kernel_rfl) rfl rfl ⟨(blk_cell BK338.out 0).trans rfl, (blk_cell BK338.out 1).trans rfl⟩ (fun hHeld => ?_)
    generalize w4.drew = w5 at BK338 BK339 HB hHeld ⊢
    refine pure_ (i := 0) (N := some 3) (v := ?_) (a' := ?_) #[true, false, false, false, false, false, false] rfl rfl (by kernel_rfl) (fun _ _ _ h => h) (Or.inl ⟨by rfl, ?_⟩) ?_ ?_
    rotate_left
    · intro w'
      go_simp
      with_reducible rfl
    rotate_left
    · simp only [Act.put, List.setIfInBounds_toArray, List.set_cons_zero, List.set_cons_succ, i64_w, i32_w]
      rfl
    refine pure_ (i := 2) (N := some 5) (v := ?_) (a' := ?_) #[true, false, true, false, false, false, false] rfl rfl (by kernel_rfl) (fun _ _ _ h => h) (Or.inl ⟨by rfl, ?_⟩) ?_ ?_
    rotate_left
    · intro w'
      go_simp
      with_reducible rfl
    rotate_left
    · simp only [Act.put, List.setIfInBounds_toArray, List.set_cons_zero, List.set_cons_succ, i64_w, i32_w]
      rfl
    refine take_ (i := 1) (N := some 4) (v := ?_) (a' := ?_) #[true, true, true, false, false, false, false] rfl rfl (by kernel_rfl) (fun _ _ _ h => h) (Or.inl ⟨by rfl, ?_⟩) hHeld ?_ ?_
    rotate_left
    · rintro w' ⟨s0, s1⟩
      go_simp
      with_reducible rfl
    rotate_left
    · simp only [Act.put, List.setIfInBounds_toArray, List.set_cons_zero, List.set_cons_succ, i64_w, i32_w]
      rfl
    refine take_ (i := 3) (N := some 6) (v := ?_) (a' := ?_) #[true, true, true, true, false, false, false] rfl rfl (by kernel_rfl) (fun _ _ _ h => h) (Or.inl ⟨by rfl, ?_⟩) hHeld ?_ ?_
    rotate_left
    · rintro w' ⟨s0, s1⟩
      go_simp
      with_reducible rfl
    rotate_left
    · simp only [Act.put, List.setIfInBounds_toArray, List.set_cons_zero, List.set_cons_succ, i64_w, i32_w]
      rfl
    refine one_ (i := 4) (N := some 7) #[true, true, true, true, true, false, false] rfl rfl (by kernel_rfl) (by decide) (fun K hK => ?_)
    refine Kd.R_append_rows_step (Kd.int .i64) (w0 := w) w.heap.size rfl (.const (.slice none 0 0)) (.tmp 6) 39 3 (.int .i64 0) 8 rfl Try.underlying39 info3 rfl (by decide) (by omega) (.slice none 0 0) ([] : List Int) l0_1 _ _ _ (fun _ => True) (fun _ => False) rfl rfl ?aO ?aR (fun _ _ h => h) (fun _ h => h.elim) ?aF ?aB ?aS ?aL ?_
    (case aR => repeat (first | exact (Kd.C_below HR0_1.out HB.out) | (with_reducible refine Kd.C_alloc ?_ _) | (with_reducible refine Kd.C_drewN ?_ _) | (with_reducible refine Kd.C_drew ?_)))
    (case aB => exact (by repeat (first | (with_reducible first | exact HB.out | apply below_alloc | apply pw_below_drewN | apply below_drew1 | refine below_set ?_ GE338.out | refine below_set ?_ GE339.out) | exact HB.out)))
    (case aF => exact (fun _ _ => trivial))
    (case aO => exact ((Kd.R_nil _ _ _ _ (fun _ => True))))
    (case aS => exact (below_size (by repeat (first | (with_reducible first | exact HB.out | apply below_alloc | apply pw_below_drewN | apply below_drew1 | refine below_set ?_ GE338.out | refine below_set ?_ GE339.out) | exact HB.out))))
    (case aL => have := LMc2.out; omega)
    intro v341 w6 ho hb hg hat
    rw [← Ny340.out] at ho
    have n0_ := Aside0.mk (blk_grown (g := gb338) (o := .cells #[.int .i64 a0_0, .slice A0_1 l0_1.length c0_1] 41 (0, 0)) (by refine sqt ?_; exact BK338.out) hg (by simp [Value.ownBlock]))
    have n1_ := Aside0.mk (blk_grown (g := gb339) (o := .cells #[.int .i64 0, .slice none 0 0] 41 (0, 0)) (by refine sqt ?_; exact BK339.out) hg (by simp [Value.ownBlock]))
    have n2_ := Aside0.mk (hb)
    have n3_ := Aside0.mk (ho)
    clear BK338
    clear BK339
    clear HB
    have BK338 := n0_
    have BK339 := n1_
    have HB := n2_
    have HO342 := n3_
    clear n0_ n1_ n2_ n3_
    clear ho hb hg hat
    obtain ⟨Ao7, co7, eo7⟩ := Kd.R_slice HO342.out
    (first | subst eo7 | (injection eo7 with f1_ f2_ f3_; have f4_ := f1_.symm; have f5_ := f3_.symm; clear f1_ f2_ f3_; subst f4_; subst f5_))
    refine hK.out _ _ sqz (fun hHeld => ?_)
    clear hK K
    refine sqnm ?_
    refine pure_ (i := 5) (N := some 8) (v := ?_) (a' := ?_) #[true, true, true, true, true, true, false] rfl rfl (by kernel_rfl) (fun _ _ _ h => h) (Or.inl ⟨by rfl, ?_⟩) ?_ ?_
    rotate_left
    · intro w'
      go_simp
      with_reducible rfl
    rotate_left
    · simp only [Act.put, List.setIfInBounds_toArray, List.set_cons_zero, List.set_cons_succ, i64_w, i32_w]
      rfl
    refine one_ (i := 6) (N := none) #[true, true, true, true, true, true, true] rfl rfl (by kernel_rfl) (by decide) (fun K hK => ?_)
    have hs8 : w6.cell? ⟨gb339, 0, none⟩ = some (.int .i64 0) := (blk_cell BK339.out 0).trans rfl
    have hfs8 := blk_frozen BK339.out 0
    have hns8_0 := NB338_339.out
    have hms8_0 := NB339_338.out
    have hs9 : w6.cell? ⟨gb339, 1, none⟩ = some (.slice none 0 0) := (blk_cell BK339.out 1).trans rfl
    have hfs9 := blk_frozen BK339.out 1
    have hns9_0 := NB338_339.out
    have hms9_0 := NB339_338.out
    refine skip_ (w1 := ?_) (by rfl) rfl ?_ ?_
    rotate_left
    · go_simp
      rfl
    refine hK.out _ _ ⟨((cell_far (p := ⟨gb339, _, none⟩) NB338_339.out _).trans (((cell_far (p := ⟨gb339, _, none⟩) NB338_339.out _).trans (hHeld.1)))), ((cell_far (p := ⟨gb339, _, none⟩) NB338_339.out _).trans (((cell_far (p := ⟨gb339, _, none⟩) NB338_339.out _).trans (hHeld.2))))⟩ (fun hHeld => ?_)
    clear hK K
    refine done_ (by kernel_rfl) ?_
    try go_wp2
    refine bodyPost_ret (results_cell_row rfl _ _ gb339 41 #[.int .i64 a0_0, .slice Ao7 y340.length co7] (0, 0) _ rfl (by refine sqt ?_; refine blk_put (cs := #[.int .i64 a0_0, .slice none 0 0]) ?_ 1 _ rfl; refine sqt ?_; refine blk_put (cs := #[.int .i64 0, .slice none 0 0]) ?_ 0 _ rfl; refine sqt ?_; exact BK339.out) Try.underlying41 rfl (by kernel_rfl)) rfl ?_
    exact ⟨_, by first | rfl | (simp [errW_none, errW_some] <;> rfl) | (simp [*, errW_none, errW_some] <;> rfl), by (with_reducible repeat (first | apply Kd.R_alloc | apply Kd.R_drewN | apply Kd.R_drew)); exact Kd.R_mono (Kd.R_far (p := ⟨gb339, 1, none⟩) (Kd.R_far (p := ⟨gb339, 0, none⟩) (Kd.R_types HO342.out BK339.out (by decide)) (fun _ hk => hk.2) (.int .i64 a0_0)) (fun _ hk => hk.2) (.slice Ao7 y340.length co7)) (fun _ hk => trivial), by repeat (first | (with_reducible first | exact HB.out | apply below_alloc | apply pw_below_drewN | apply below_drew1 | refine below_set ?_ GE338.out | refine below_set ?_ GE339.out) | exact HB.out)⟩
  · rw [if_neg c2] at H
    exact absurd H (by simp)

/-! ### impl_GapsJoin: function 37 -/
theorem impl_GapsJoin.mono_l : ∀ k, (∀ y0 y1 y2 y3 y4, LeO (impl_GapsJoin.j0 k y0 y1 y2 y3 y4) (impl_GapsJoin.j0 (k + 1) y0 y1 y2 y3 y4)) ∧ (∀ y0 y1 y2 y3 y4, LeO (impl_GapsJoin.l0 k y0 y1 y2 y3 y4) (impl_GapsJoin.l0 (k + 1) y0 y1 y2 y3 y4))
  | 0 => ⟨fun _ _ _ _ _ r h => by simp [impl_GapsJoin.j0] at h, fun _ _ _ _ _ r h => by simp [impl_GapsJoin.l0] at h⟩
  | k + 1 => by
    obtain ⟨ih0, ih1⟩ := impl_GapsJoin.mono_l k
    refine ⟨?_, ?_⟩
    · intro y0 y1 y2 y3 y4
      unfold impl_GapsJoin.j0
      repeat' first
      | (with_reducible exact ih0 _ _ _ _ _)
      | (with_reducible exact ih1 _ _ _ _ _)
      | (with_reducible exact impl_GapsOk.mono _ _ _)
      | (with_reducible exact LeO.refl _)
      | (with_reducible exact LeO.none _)
      | (with_reducible refine LeO.ite ?_ ?_)
      | (with_reducible refine LeO.bind ?_ (fun _ => ?_))
      | exact ih0 _ _ _ _ _
      | exact ih1 _ _ _ _ _
      | exact impl_GapsOk.mono _ _ _
      | exact LeO.none _
      | refine LeO.ite ?_ ?_
      | refine LeO.bind ?_ (fun _ => ?_)
    · intro y0 y1 y2 y3 y4
      unfold impl_GapsJoin.l0
      repeat' first
      | (with_reducible exact ih0 _ _ _ _ _)
      | (with_reducible exact ih1 _ _ _ _ _)
      | (with_reducible exact impl_GapsOk.mono _ _ _)
      | (with_reducible exact LeO.refl _)
      | (with_reducible exact LeO.none _)
      | (with_reducible refine LeO.ite ?_ ?_)
      | (with_reducible refine LeO.bind ?_ (fun _ => ?_))
      | exact ih0 _ _ _ _ _
      | exact ih1 _ _ _ _ _
      | exact impl_GapsOk.mono _ _ _
      | exact LeO.none _
      | refine LeO.ite ?_ ?_
      | refine LeO.bind ?_ (fun _ => ?_)
theorem impl_GapsJoin.mono : ∀ a0 a1 a2 a3 k, LeO (impl_GapsJoin.f k a0 a1 a2 a3) (impl_GapsJoin.f (k + 1) a0 a1 a2 a3) := by
  intro a0 a1 a2 a3 k
  obtain ⟨ih0, ih1⟩ := impl_GapsJoin.mono_l k
  unfold impl_GapsJoin.f
  repeat' first
      | (with_reducible exact ih0 _ _ _ _ _)
      | (with_reducible exact ih1 _ _ _ _ _)
      | (with_reducible exact impl_GapsOk.mono _ _ _)
      | (with_reducible exact LeO.refl _)
      | (with_reducible exact LeO.none _)
      | (with_reducible refine LeO.ite ?_ ?_)
      | (with_reducible refine LeO.bind ?_ (fun _ => ?_))
      | exact ih0 _ _ _ _ _
      | exact ih1 _ _ _ _ _
      | exact impl_GapsOk.mono _ _ _
      | exact LeO.none _
      | refine LeO.ite ?_ ?_
      | refine LeO.bind ?_ (fun _ => ?_)
def impl_GapsJoin.T7 : Bool × List (List Nat × List Nat) := (true, [([], []), ([0], [0]), ([], []), ([], []), ([3], [3]), ([], []), ([4, 5], [4, 5]), ([6], [6]), ([], []), ([7, 8], [7, 8]), ([1, 2, 0, 1, 2, 3, 4, 5, 6, 7, 8, 9], [1, 2]), ([10, 9, 0, 1, 2, 3, 4, 5, 6, 7, 8, 9], [9, 10])])
def impl_GapsJoin.B7 : List Nat := [0, 1, 0, 0, 8, 0, 56, 120, 0, 504, 1023, 2047]
theorem impl_GapsJoin.tab7 : rtab .any (opsOf Try.f37 7) = impl_GapsJoin.T7 := by kernel_rfl
theorem impl_GapsJoin.bits7 : waitsOk impl_GapsJoin.T7.2 impl_GapsJoin.B7 = true := by kernel_rfl
set_option maxHeartbeats 8000000 in
set_option maxRecDepth 100000 in
theorem impl_GapsJoin.calls (k : Nat) (a0_0 : Int) (A0_1 : Option Addr) (c0_1 : Nat) (l0_1 : List Int) (a1_0 : Int) (A1_1 : Option Addr) (c1_1 : Nat) (l1_1 : List Int) (r1 : Int) (r2 : List Int) (w : World) (hr0_1 : Kd.C (Kd.int .i64) w A0_1 l0_1.length l0_1) (hc0_1 : l0_1.length ≤ c0_1) (hr1_1 : Kd.C (Kd.int .i64) w A1_1 l1_1.length l1_1) (hc1_1 : l1_1.length ≤ c1_1) (h : impl_GapsJoin.f k a0_0 l0_1 a1_0 l1_1 = some (r1, r2)) :
    Calls Try.prog 37 #[.agg #[.int .i64 a0_0, .slice A0_1 l0_1.length c0_1], .agg #[.int .i64 a1_0, .slice A1_1 l1_1.length c1_1]] w fun e w' => ∃ v1_ : Value, e = .returned (.agg #[.int .i64 r1, v1_]) ∧ Kd.R (Kd.int .i64) 3 w' w.heap.size (fun _ => True) v1_ r2 ∧ Below w.heap.size w w' := by
  have hu41 := Try.underlying41
  have HR0_1 := Aside0.mk hr0_1
  have HC0_1 := Aside0.mk hc0_1
  clear hr0_1 hc0_1
  have HR1_1 := Aside0.mk hr1_1
  have HC1_1 := Aside0.mk hc1_1
  clear hr1_1 hc1_1
  have HB := Aside0.mk (Below.refl w.heap.size w)
  have H : ((impl_GapsOk.f k a0_0 l0_1).bind fun t346 => (if t346 = true then ((impl_GapsOk.f k a1_0 l1_1).bind fun t347 => (if t347 = true then (impl_GapsJoin.j0 k (a0_0 != a1_0) a0_0 l0_1 a1_0 l1_1) else (impl_GapsJoin.j0 k true a0_0 l0_1 a1_0 l1_1))) else (impl_GapsJoin.j0 k true a0_0 l0_1 a1_0 l1_1))) = some (r1, r2) := h
  clear h
  have HC3 := Aside0.mk H
  clear H
  go_enter Try.func37, Try.ntmps37
  go_upto_region 1 with (first | ((with_reducible refine gate_dst (N := 2) rfl ?_); refine sqx 2 #[.int .i64 a0_0, .slice A0_1 l0_1.length c0_1] 41 ?_; intro gb343 hg w4 hbox hb; have BK343 := Aside0.mk (hbox); have GW343 := sqg HB hg; have GE343 := sqg HB hg; replace HB := sqs HB hb; clear hb hbox hg) | ((with_reducible refine gate_dst (N := 3) rfl ?_); refine sqx 3 #[.int .i64 a1_0, .slice A1_1 l1_1.length c1_1] 41 ?_; intro gb344 hg w5 hbox hb; have BK344 := Aside0.mk (hbox); have GW344 := sqg HB hg; have GE344 := sqg HB hg; have NB343_344 := sqn BK343 hg; have NB344_343 := sqm BK343 hg; replace BK343 := sqb BK343 hb; replace HB := sqs HB hb; clear hb hbox hg) | ((with_reducible refine gate_dst (N := 4) rfl ?_); refine sqx 4 #[.int .i64 0, .slice none 0 0] 41 ?_; intro gb345 hg w6 hbox hb; have BK345 := Aside0.mk (hbox); have GW345 := sqg HB hg; have GE345 := sqg HB hg; have NB343_345 := sqn BK343 hg; have NB345_343 := sqm BK343 hg; have NB344_345 := sqn BK344 hg; have NB345_344 := sqm BK344 hg; replace BK343 := sqb BK343 hb; replace BK344 := sqb BK344 hb; replace HB := sqs HB hb; clear hb hbox hg))
  (try simp only [Act.put, List.setIfInBounds_toArray, List.set_cons_zero, List.set_cons_succ])
  go_cut [22] (fun v22 wc => ∃ (kq : Nat) (x22_2 : Bool), v22 = .bool x22_2 ∧ Aside0 (impl_GapsJoin.j0 kq x22_2 a0_0 l0_1 a1_0 l1_1 = some (r1, r2)) ∧ Aside0 (kq ≤ k) ∧ Aside0 (wc.heap[gb343]? = some (.cells #[.int .i64 a0_0, (.slice A0_1 l0_1.length c0_1)] 41 (0, 0))) ∧ Aside0 (wc.heap[gb344]? = some (.cells #[.int .i64 a1_0, (.slice A1_1 l1_1.length c1_1)] 41 (0, 0))) ∧ Aside0 (wc.heap[gb345]? = some (.cells #[.int .i64 0, (.slice none 0 0)] 41 (0, 0))) ∧ Aside0 (Below w.heap.size w wc))
  case first =>
    have H := HC3.out
    clear HC3
    replace H := Option.bind_eq_some_iff.mp H
    obtain ⟨t346, A70, H⟩ := H
    replace H : (if t346 = true then ((impl_GapsOk.f k a1_0 l1_1).bind fun t347 => (if t347 = true then (impl_GapsJoin.j0 k (a0_0 != a1_0) a0_0 l0_1 a1_0 l1_1) else (impl_GapsJoin.j0 k true a0_0 l0_1 a1_0 l1_1))) else (impl_GapsJoin.j0 k true a0_0 l0_1 a1_0 l1_1)) = some (r1, r2) := H
    have A7 := Aside0.mk A70
    clear A70
    by_cases c8 : t346 = true
    · subst c8
      have H1 : ((impl_GapsOk.f k a1_0 l1_1).bind fun t347 => (if t347 = true then (impl_GapsJoin.j0 k (a0_0 != a1_0) a0_0 l0_1 a1_0 l1_1) else (impl_GapsJoin.j0 k true a0_0 l0_1 a1_0 l1_1))) = some (r1, r2) := by rw [if_pos rfl] at H; exact H
      clear H
      have H := H1
      clear H1
      replace H := Option.bind_eq_some_iff.mp H
      obtain ⟨t347, A90, H⟩ := H
      replace H : (if t347 = true then (impl_GapsJoin.j0 k (a0_0 != a1_0) a0_0 l0_1 a1_0 l1_1) else (impl_GapsJoin.j0 k true a0_0 l0_1 a1_0 l1_1)) = some (r1, r2) := H
      have A9 := Aside0.mk A90
      clear A90
      by_cases c10 : t347 = true
      · subst c10
        have H1 : (impl_GapsJoin.j0 k (a0_0 != a1_0) a0_0 l0_1 a1_0 l1_1) = some (r1, r2) := by rw [if_pos rfl] at H; exact H
        clear H
        have H := H1
        clear H1
        have H' := Aside0.mk H
        clear H
        have hnb11 := NB343_344.out
        have hnc11 := NB344_343.out
        have hnb12 := NB343_345.out
        have hnc12 := NB345_343.out
        obtain ⟨hcz13_0, hcz13_1, hfz13_0, hfz13_1⟩ := sqc2 BK343
        go_wp2_with (first | ((with_reducible refine gate_callee (f := 31) rfl ?_); refine sqL (some 9) Try.func31 #[.agg #[.int .i64 a0_0, .slice A0_1 l0_1.length c0_1]] ?_; (with_reducible refine (impl_GapsOk.calls k a0_0 _ _ l0_1 true _ ?side1 ?side2 A7.out).mono ?_); (case side1 => repeat (first | exact (Kd.C_below HR0_1.out HB.out) | (with_reducible refine Kd.C_alloc ?_ _) | (with_reducible refine Kd.C_drewN ?_ _) | (with_reducible refine Kd.C_drew ?_))); (case side2 => exact HC0_1.out); rintro e w14 ⟨rfl, hb⟩; refine ⟨_, rfl, ?_⟩; replace BK343 := sqb BK343 hb; replace BK344 := sqb BK344 hb; replace BK345 := sqb BK345 hb; replace HB := sqs HB hb; (try clear hb); have hnb15 := NB344_345.out; have hnc15 := NB345_344.out; obtain ⟨hcz16_0, hcz16_1, hfz16_0, hfz16_1⟩ := sqc2 BK344) | (go_at_call 31; (with_reducible refine (impl_GapsOk.calls k a1_0 _ _ l1_1 true _ ?side1 ?side2 A9.out).mono ?_); (case side1 => repeat (first | exact (Kd.C_below HR1_1.out HB.out) | (with_reducible refine Kd.C_alloc ?_ _) | (with_reducible refine Kd.C_drewN ?_ _) | (with_reducible refine Kd.C_drew ?_))); (case side2 => exact HC1_1.out); rintro e w17 ⟨rfl, hb⟩; replace BK343 := sqb BK343 hb; replace BK344 := sqb BK344 hb; replace BK345 := sqb BK345 hb; replace HB := sqs HB hb; (try clear hb); obtain ⟨hcz18_0, hcz18_1, hfz18_0, hfz18_1⟩ := sqc2 BK343; obtain ⟨hcz19_0, hcz19_1, hfz19_0, hfz19_1⟩ := sqc2 BK344))
        go_meet
        case rel => exact ⟨_, ((a0_0 != a1_0)), (by first | rfl | (simp; done) | (simp [*]; done)), H', ⟨by first | omega | exact Nat.le_refl _⟩, sqk BK343, sqk BK344, sqk BK345, sqh HB⟩
      · replace c10 := Bool.eq_false_iff.mpr c10
        subst c10
        have H1 : (impl_GapsJoin.j0 k true a0_0 l0_1 a1_0 l1_1) = some (r1, r2) := by rw [if_neg (show ¬ (false = true) by decide)] at H; exact H
        clear H
        have H := H1
        clear H1
        have H' := Aside0.mk H
        clear H
        have hnb20 := NB343_344.out
        have hnc20 := NB344_343.out
        have hnb21 := NB343_345.out
        have hnc21 := NB345_343.out
        obtain ⟨hcz22_0, hcz22_1, hfz22_0, hfz22_1⟩ := sqc2 BK343
        go_wp2_with (first | ((with_reducible refine gate_callee (f := 31) rfl ?_); refine sqL (some 9) Try.func31 #[.agg #[.int .i64 a0_0, .slice A0_1 l0_1.length c0_1]] ?_; (with_reducible refine (impl_GapsOk.calls k a0_0 _ _ l0_1 true _ ?side1 ?side2 A7.out).mono ?_); (case side1 => repeat (first | exact (Kd.C_below HR0_1.out HB.out) | (with_reducible refine Kd.C_alloc ?_ _) | (with_reducible refine Kd.C_drewN ?_ _) | (with_reducible refine Kd.C_drew ?_))); (case side2 => exact HC0_1.out); rintro e w23 ⟨rfl, hb⟩; refine ⟨_, rfl, ?_⟩; replace BK343 := sqb BK343 hb; replace BK344 := sqb BK344 hb; replace BK345 := sqb BK345 hb; replace HB := sqs HB hb; (try clear hb); have hnb24 := NB344_345.out; have hnc24 := NB345_344.out; obtain ⟨hcz25_0, hcz25_1, hfz25_0, hfz25_1⟩ := sqc2 BK344) | (go_at_call 31; (with_reducible refine (impl_GapsOk.calls k a1_0 _ _ l1_1 false _ ?side1 ?side2 A9.out).mono ?_); (case side1 => repeat (first | exact (Kd.C_below HR1_1.out HB.out) | (with_reducible refine Kd.C_alloc ?_ _) | (with_reducible refine Kd.C_drewN ?_ _) | (with_reducible refine Kd.C_drew ?_))); (case side2 => exact HC1_1.out); rintro e w26 ⟨rfl, hb⟩; replace BK343 := sqb BK343 hb; replace BK344 := sqb BK344 hb; replace BK345 := sqb BK345 hb; replace HB := sqs HB hb; (try clear hb)))
        go_meet
        case rel => exact ⟨_, (true), (by first | rfl | (simp; done) | (simp [*]; done)), H', ⟨by first | omega | exact Nat.le_refl _⟩, sqk BK343, sqk BK344, sqk BK345, sqh HB⟩
    · replace c8 := Bool.eq_false_iff.mpr c8
      subst c8
      have H1 : (impl_GapsJoin.j0 k true a0_0 l0_1 a1_0 l1_1) = some (r1, r2) := by rw [if_neg (show ¬ (false = true) by decide)] at H; exact H
      clear H
      have H := H1
      clear H1
      have H' := Aside0.mk H
      clear H
      have hnb27 := NB343_344.out
      have hnc27 := NB344_343.out
      have hnb28 := NB343_345.out
      have hnc28 := NB345_343.out
      obtain ⟨hcz29_0, hcz29_1, hfz29_0, hfz29_1⟩ := sqc2 BK343
      go_wp2_with (first | ((with_reducible refine gate_callee (f := 31) rfl ?_); refine sqL (some 9) Try.func31 #[.agg #[.int .i64 a0_0, .slice A0_1 l0_1.length c0_1]] ?_; (with_reducible refine (impl_GapsOk.calls k a0_0 _ _ l0_1 false _ ?side1 ?side2 A7.out).mono ?_); (case side1 => repeat (first | exact (Kd.C_below HR0_1.out HB.out) | (with_reducible refine Kd.C_alloc ?_ _) | (with_reducible refine Kd.C_drewN ?_ _) | (with_reducible refine Kd.C_drew ?_))); (case side2 => exact HC0_1.out); rintro e w30 ⟨rfl, hb⟩; refine ⟨_, rfl, ?_⟩; replace BK343 := sqb BK343 hb; replace BK344 := sqb BK344 hb; replace BK345 := sqb BK345 hb; replace HB := sqs HB hb; (try clear hb)))
      go_meet
      case rel => exact ⟨_, (true), (by first | rfl | (simp; done) | (simp [*]; done)), H', ⟨by first | omega | exact Nat.le_refl _⟩, sqk BK343, sqk BK344, sqk BK345, sqh HB⟩
  case rest =>
    clear HC3
    obtain ⟨kq, x22_2, rfl, HA, HJ2, BK343, BK344, BK345, HB⟩ := hcut
    cases kq with
    | zero => exact absurd HA.out (by simp [impl_GapsJoin.j0])
    | succ kj2 =>
      have H := HA.out
      clear HA
      simp only [impl_GapsJoin.j0] at H
      by_cases c31 : x22_2 = true
      · subst c31
        have H1 : (some (0, ([] : List Int))) = some (r1, r2) := by rw [if_pos rfl] at H; exact H
        clear H
        have H := H1
        clear H1
        simp only [Option.some.injEq, Prod.mk.injEq] at H
        obtain ⟨rfl, rfl⟩ := H
        have hnb32 := NB345_343.out
        have hnc32 := NB343_345.out
        have hnb33 := NB345_344.out
        have hnc33 := NB344_345.out
        obtain ⟨hcz34_0, hcz34_1, hfz34_0, hfz34_1⟩ := sqc2 BK345
        go_wp2
        refine bodyPost_ret (results_cell_row rfl _ _ gb345 41 #[.int .i64 0, .slice none 0 0] (0, 0) _ rfl (by refine sqt ?_; refine blk_put (cs := #[.int .i64 0, .slice none 0 0]) ?_ 1 _ rfl; refine sqt ?_; refine blk_put (cs := #[.int .i64 0, .slice none 0 0]) ?_ 0 _ rfl; refine sqt ?_; exact BK345.out) Try.underlying41 rfl (by kernel_rfl)) rfl ?_
        exact ⟨_, by first | rfl | (simp [errW_none, errW_some] <;> rfl) | (simp [*, errW_none, errW_some] <;> rfl), by first | exact Kd.R_nil _ _ _ _ _ | exact Kd.N_nil _ _ _ _ _ | exact Kd.V_nil _ _ _ _ _ | exact Kd.Q_nil _ _ _ _ _ | exact Kd.S_nil _ _ _ _ _, by repeat (first | (with_reducible first | exact HB.out | apply below_alloc | apply pw_below_drewN | apply below_drew1 | refine below_set ?_ GE343.out | refine below_set ?_ GE344.out | refine below_set ?_ GE345.out) | exact HB.out)⟩
      · replace c31 := Bool.eq_false_iff.mpr c31
        subst c31
        have H1 : ((impl_Gaps_clone.f a0_0 l0_1).bind fun bt348 => (impl_GapsJoin.l0 kj2 l1_1 (l1_1.length : Int) 0 bt348.1 bt348.2)) = some (r1, r2) := by rw [if_neg (show ¬ (false = true) by decide)] at H; exact H
        clear H
        have H := H1
        clear H1
        replace H := Option.bind_eq_some_iff.mp H
        obtain ⟨⟨t348, t349⟩, A350, H⟩ := H
        replace H : (impl_GapsJoin.l0 kj2 l1_1 (l1_1.length : Int) 0 t348 t349) = some (r1, r2) := H
        have A35 := Aside0.mk A350
        clear A350
        have H' := Aside0.mk H
        clear H
        have hnb36 := NB343_344.out
        have hnc36 := NB344_343.out
        have hnb37 := NB343_345.out
        have hnc37 := NB345_343.out
        obtain ⟨hcz38_0, hcz38_1, hfz38_0, hfz38_1⟩ := sqc2 BK343
        go_wp2_with (first | ((with_reducible refine gate_callee (f := 111) rfl ?_); refine sqL (some 25) Try.func111 #[.agg #[.int .i64 a0_0, .slice A0_1 l0_1.length c0_1]] ?_; (with_reducible refine (impl_Gaps_clone.calls a0_0 _ _ l0_1 t348 t349 _ ?side1 ?side2 A35.out).mono ?_); (case side1 => repeat (first | exact (Kd.C_below HR0_1.out HB.out) | (with_reducible refine Kd.C_alloc ?_ _) | (with_reducible refine Kd.C_drewN ?_ _) | (with_reducible refine Kd.C_drew ?_))); (case side2 => exact HC0_1.out); rintro e w39 ⟨v350, rfl, ho0, hb⟩; refine ⟨_, rfl, ?_⟩; have HO351 := Aside0.mk (Kd.R_lower ho0 (below_size (by repeat (first | (with_reducible first | exact HB.out | apply below_alloc | apply pw_below_drewN | apply below_drew1 | refine below_set ?_ GE343.out | refine below_set ?_ GE344.out | refine below_set ?_ GE345.out) | exact HB.out)))); replace BK343 := sqb BK343 hb; replace BK344 := sqb BK344 hb; replace BK345 := sqb BK345 hb; replace HB := sqs HB hb; (try clear hb); (try clear hb2); (try clear hk); (try clear hi); (try clear ho0)) | ((with_reducible refine gate_dst (N := 5) rfl ?_); refine sqx 5 #[.int .i64 0, .slice none 0 0] 41 ?_; intro gb352 hg w40 hbox hb; have n0_ := Aside0.mk (Kd.R_below (by (with_reducible repeat (first | apply Kd.R_alloc | apply Kd.R_drewN | apply Kd.R_drew)); exact HO351.out) hb); have n1_ := sqb BK343 hb; have n2_ := sqb BK344 hb; have n3_ := sqb BK345 hb; have n4_ := sqs HB hb; have n5_ := Aside0.mk (hbox); have n6_ := sqg HB hg; have n7_ := sqg HB hg; have n8_ := sqn BK343 hg; have n9_ := sqm BK343 hg; have n10_ := sqn BK344 hg; have n11_ := sqm BK344 hg; have n12_ := sqn BK345 hg; have n13_ := sqm BK345 hg; clear HO351; clear BK343; clear BK344; clear BK345; clear HB; have HO351 := n0_; have BK343 := n1_; have BK344 := n2_; have BK345 := n3_; have HB := n4_; have BK352 := n5_; have GW352 := n6_; have GE352 := n7_; have NB343_352 := n8_; have NB352_343 := n9_; have NB344_352 := n10_; have NB352_344 := n11_; have NB345_352 := n12_; have NB352_345 := n13_; clear n0_ n1_ n2_ n3_ n4_ n5_ n6_ n7_ n8_ n9_ n10_ n11_ n12_ n13_; clear hb hbox hg; have hnb41 := NB352_343.out; have hnc41 := NB343_352.out; have hnb42 := NB352_344.out; have hnc42 := NB344_352.out; have hnb43 := NB352_345.out; have hnc43 := NB345_352.out; obtain ⟨hcz44_0, hcz44_1, hfz44_0, hfz44_1⟩ := sqc2 BK352; obtain ⟨Ao45, co45, eo45⟩ := Kd.R_slice HO351.out; subst eo45; have hnb46 := NB344_345.out; have hnc46 := NB345_344.out; obtain ⟨hcz47_0, hcz47_1, hfz47_0, hfz47_1⟩ := sqc2 BK344))
        go_loopg [29] kj2 (fun kq v29 w' => ∃ (x29_2 : Int) (x353001_2 : List Int) (u353001 : Value), v29 = .int .i64 x29_2 ∧ Aside0 (impl_GapsJoin.l0 kq l1_1 (l1_1.length : Int) x29_2 t348 x353001_2 = some (r1, r2)) ∧ Aside0 (kq ≤ kj2) ∧ Aside0 (Kd.R (Kd.int .i64) 3 w' w.heap.size (fun _ => True) u353001 x353001_2) ∧ Aside0 (w'.heap[gb343]? = some (.cells #[.int .i64 a0_0, (.slice A0_1 l0_1.length c0_1)] 41 (0, 0))) ∧ Aside0 (w'.heap[gb344]? = some (.cells #[.int .i64 a1_0, (.slice A1_1 l1_1.length c1_1)] 41 (0, 0))) ∧ Aside0 (w'.heap[gb345]? = some (.cells #[.int .i64 0, (.slice none 0 0)] 41 (0, 0))) ∧ Aside0 (w'.heap[gb352]? = some (.cells #[.int .i64 t348, u353001] 41 (0, 0))) ∧ Aside0 (Below w.heap.size w w'))
        case atStart => exact ⟨(0), (t349), (.slice Ao45 t349.length co45), (by first | rfl | (simp; done) | (simp [*]; done)), H', ⟨Nat.le_refl _⟩, ⟨by (with_reducible repeat (first | apply Kd.R_alloc | apply Kd.R_drewN | apply Kd.R_drew)); exact Kd.R_mono (Kd.R_far (p := ⟨gb352, 1, none⟩) (Kd.R_far (p := ⟨gb352, 0, none⟩) (Kd.R_types HO351.out BK352.out (by decide)) (fun _ hk => hk.2) (.int .i64 t348)) (fun _ hk => hk.2) (.slice Ao45 t349.length co45)) (fun _ hk => trivial)⟩, ⟨by refine sqt ?_; refine blk_far ?_ NB343_352.out _; refine sqt ?_; refine blk_far ?_ NB343_352.out _; refine sqt ?_; exact BK343.out⟩, ⟨by refine sqt ?_; refine blk_far ?_ NB344_352.out _; refine sqt ?_; refine blk_far ?_ NB344_352.out _; refine sqt ?_; exact BK344.out⟩, ⟨by refine sqt ?_; refine blk_far ?_ NB345_352.out _; refine sqt ?_; refine blk_far ?_ NB345_352.out _; refine sqt ?_; exact BK345.out⟩, ⟨by refine sqt ?_; refine blk_put (cs := #[.int .i64 t348, .slice none 0 0]) ?_ 1 _ rfl; refine sqt ?_; refine blk_put (cs := #[.int .i64 0, .slice none 0 0]) ?_ 0 _ rfl; refine sqt ?_; exact BK352.out⟩, sqh HB⟩
        case round =>
          clear H'
          try clear c1
          try clear c2
          try clear p2
          try clear c3
          try clear c4
          try clear c8
          try clear c10
          try clear c11
          try clear c12
          try clear c15
          try clear c20
          try clear c21
          try clear c24
          try clear c27
          try clear c28
          try clear c31
          try clear c32
          try clear c33
          try clear c36
          try clear c37
          try clear c41
          try clear c42
          try clear c43
          try clear c46
          try clear hcz13_0
          try clear hcz13_1
          try clear hcz16_0
          try clear hcz16_1
          try clear hcz18_0
          try clear hcz18_1
          try clear hcz19_0
          try clear hcz19_1
          try clear hcz22_0
          try clear hcz22_1
          try clear hcz25_0
          try clear hcz25_1
          try clear hcz29_0
          try clear hcz29_1
          try clear hcz34_0
          try clear hcz34_1
          try clear hcz38_0
          try clear hcz38_1
          try clear hcz44_0
          try clear hcz44_1
          try clear hcz47_0
          try clear hcz47_1
          try clear hfz13_0
          try clear hfz13_1
          try clear hfz16_0
          try clear hfz16_1
          try clear hfz18_0
          try clear hfz18_1
          try clear hfz19_0
          try clear hfz19_1
          try clear hfz22_0
          try clear hfz22_1
          try clear hfz25_0
          try clear hfz25_1
          try clear hfz29_0
          try clear hfz29_1
          try clear hfz34_0
          try clear hfz34_1
          try clear hfz38_0
          try clear hfz38_1
          try clear hfz44_0
          try clear hfz44_1
          try clear hfz47_0
          try clear hfz47_1
          try clear p2
          obtain ⟨x29_2, x353001_2, u353001, rfl, HA, HK2, HO_353001, BK343, BK344, BK345, BK352, HB⟩ := hrel
          cases gk with
          | zero => exact absurd HA.out (by simp [impl_GapsJoin.l0])
          | succ k2 =>
            have H := HA.out
            clear HA
            simp only [impl_GapsJoin.l0] at H
            by_cases c48 : x29_2 < (l1_1.length : Int)
            · rw [if_pos c48] at H
              have c48b0 : decide (x29_2 < (l1_1.length : Int)) = true := decide_eq_true c48
              clear c48
              by_cases c49 : 0 ≤ x29_2
              · rw [if_pos c49] at H
                have c49b0 : decide (0 ≤ x29_2) = true := decide_eq_true c49
                clear c49
                by_cases c50 : x29_2 < (l1_1.length : Int)
                · rw [if_pos c50] at H
                  have c50b0 : decide (x29_2 < (l1_1.length : Int)) = true := decide_eq_true c50
                  clear c50
                  by_cases c51 : x29_2 < (x353001_2.length : Int)
                  · rw [if_pos c51] at H
                    have c51b0 : decide (x29_2 < (x353001_2.length : Int)) = true := decide_eq_true c51
                    clear c51
                    obtain ⟨ji52, hji52⟩ : ∃ j_ : Int, (mx (rd x353001_2 x29_2) (rd l1_1 x29_2)) = j_ := ⟨_, rfl⟩
                    replace H : (impl_GapsJoin.l0 k2 l1_1 (l1_1.length : Int) (wrap64 (x29_2 + 1)) t348 (x353001_2.set (x29_2 : Int).toNat (ji52))) = some (r1, r2) := by first | (rw [hji52] at H; exact H) | (simp only [hji52] at H ⊢; exact H)
                    have hji52_ : (if (rd x353001_2 x29_2) < (rd l1_1 x29_2) then (rd l1_1 x29_2) else (rd x353001_2 x29_2)) = ji52 := hji52
                    obtain ⟨y355, hy355⟩ : ∃ y_ : List Int, y_ = (x353001_2.set (x29_2 : Int).toNat (ji52)) := ⟨_, rfl⟩
                    replace H : (impl_GapsJoin.l0 k2 l1_1 (l1_1.length : Int) (wrap64 (x29_2 + 1)) t348 y355) = some (r1, r2) := by first | (rw [hy355]; with_reducible exact H) | (have H2_ := (Option.bind_some _ _).symm.trans H; rw [hy355]; with_reducible exact H2_) | (have H2_ := (Option.bind_some _ _).symm.trans H; with_reducible exact H2_) | with_reducible exact H | (rw [hy355]; exact H) | exact H
                    have Ny355 := Aside0.mk hy355
                    clear hy355
                    have H' := Aside0.mk H
                    clear H
                    have p353 : 0 ≤ (x29_2 : Int) := of_decide_eq_true (by first | (with_reducible assumption) | assumption)
                    have q353 : x29_2 < (l1_1.length : Int) := of_decide_eq_true (by first | (with_reducible assumption) | assumption)
                    obtain ⟨ad353, e353, hx353_0⟩ := Kd.at_int HR1_1.out x29_2 p353 q353
                    cases e353
                    replace hx353_0 := (HB.out.cell (World.block_lt_of_cell? w _ hx353_0)).trans hx353_0
                    replace p353 := eq_true p353
                    replace q353 := eq_true q353
                    try go_wp2
                    replace HO_353001 := Aside0.mk (Kd.R_drew HO_353001.out)
                    replace BK343 := Aside0.mk (blk_drew BK343.out)
                    replace BK344 := Aside0.mk (blk_drew BK344.out)
                    replace BK345 := Aside0.mk (blk_drew BK345.out)
                    replace BK352 := Aside0.mk (blk_drew BK352.out)
                    replace HB := Aside0.mk (below_drew1 HB.out)
                    obtain ⟨Ao55, co55, eo55⟩ := Kd.R_slice HO_353001.out
                    (first | subst eo55 | (injection eo55 with f1_ f2_ f3_; have f4_ := f1_.symm; have f5_ := f3_.symm; clear f1_ f2_ f3_; subst f4_; subst f5_))
                    have p354 : 0 ≤ (x29_2 : Int) := of_decide_eq_true (by first | (with_reducible assumption) | assumption)
                    have q354 : x29_2 < (x353001_2.length : Int) := of_decide_eq_true (by first | (with_reducible assumption) | assumption)
                    obtain ⟨ad354, e354, hx354_0⟩ := Kd.at_int (Kd.R_reads' HO_353001.out).2.2 x29_2 p354 q354
                    cases e354
                    replace p354 := eq_true p354
                    replace q354 := eq_true q354
                    have p53 : 0 ≤ (x29_2 : Int) := of_decide_eq_true (by first | (with_reducible assumption) | assumption)
                    have q53 : (x29_2 : Int) < ((x353001_2.length : Int) : Int) := of_decide_eq_true (by first | (with_reducible assumption) | assumption)
                    obtain ⟨go53, co53, eo53, gb53, gl53, cl53, HG53⟩ := Kd.R_form HO_353001.out (by omega)
                    (first | cases eo53 | (injection eo53 with ea_ en_ ec_; (first | subst ea_ | (injection ea_ with ea_; subst ea_)); subst ec_; clear en_))
                    have GB53 := Aside0.mk gb53
                    have GG53 := Aside0.mk HG53
                    clear gb53 gl53 HG53
                    (first | simp only [add_plain] at hx354_0 | skip)
                    obtain ⟨hx53_0, hf53_0⟩ := Kd.R_celln 0 HO_353001.out (x29_2 : Int) p53 q53
                    replace p53 := eq_true p53
                    replace q53 := eq_true q53
                    have HP56 := Kd.R_putn HO_353001.out (x29_2 : Int) ji52
                    rw [← Ny355.out] at HP56
                    have HQ56 := Aside0.mk HP56
                    clear HP56
                    refine start_ (n := 12) (S := fun w' => w'.cell? ⟨gb352, 0, none⟩ = some (.int .i64 t348) ∧ w'.cell? ⟨gb352, 1, none⟩ = some (.slice (some ⟨go53, 0, none⟩) x353001_2.length co55) ∧ w'.cell? ⟨go53, (x29_2).toNat, none⟩ = some (.int .i64 (rd x353001_2 x29_2))) (ds := [11]) #[false, false, false, false, false, false, false, false, false, false, false, false] (by kernel_rfl) rfl rfl ⟨(blk_cell BK352.out 0).trans rfl, (blk_cell BK352.out 1).trans rfl, hx354_0⟩ (fun hHeld => ?_); refine with_tabW impl_GapsJoin.tab7 impl_GapsJoin.bits7 (fun HT_ HW_ => ?_)
                    generalize wr.drew = w54 at HO_353001 BK343 BK344 BK345 BK352 HB GG53 HQ56 hf53_0 hx354_0 hx53_0 hHeld ⊢
                    refine sqp HT_ 0 34 ?_
                    refine sqp HT_ 2 36 ?_
                    refine sqp HT_ 3 37 ?_
                    refine sqp HT_ 5 39 ?_
                    refine sqp HT_ 8 42 ?_
                    refine sqw HT_ HW_ 1 35 hHeld ?_
                    refine sqw HT_ HW_ 4 38 hHeld ?_
                    refine sqp HT_ 6 40 ?_
                    refine sqw HT_ HW_ 7 41 hHeld ?_
                    refine sqp HT_ 9 43 ?_
                    refine sqp HT_ 10 44 ?_
                    refine last_ (i := 11) (N := none) #[true, true, true, true, true, true, true, true, true, true, true, true] rfl rfl (one_of HT_.out (by kernel_rfl)) (by decide) (fun K hK => ?_)
                    refine skip_ (w1 := ?_) (by rfl) rfl ?_ ?_
                    rotate_left
                    · go_simp
                      rfl
                    refine hK.out _ _ ?_
                    clear hK K
                    refine done_ (done_of HT_.out (by kernel_rfl)) ?_
                    try go_wp2
                    go_roundg k2
                    case measure => have := HJ2.out; have := HK2.out; omega
                    case rel => exact ⟨(wrap64 (x29_2 + 1)), (y355), (.slice (some ⟨go53, 0, none⟩) x353001_2.length co55), (by first | rfl | (simp; done) | (simp [*]; done)), H', ⟨by have := HJ2.out; have := HK2.out; omega⟩, ⟨by (with_reducible repeat (first | apply Kd.R_alloc | apply Kd.R_drewN | apply Kd.R_drew)); exact HQ56.out⟩, ⟨by refine sqt ?_; refine blk_far ?_ (by have h_ := Kd.R_ne HO_353001.out BK343.out (by decide); intro e_; exact h_ (by rw [e_]; rfl)) _; refine sqt ?_; exact BK343.out⟩, ⟨by refine sqt ?_; refine blk_far ?_ (by have h_ := Kd.R_ne HO_353001.out BK344.out (by decide); intro e_; exact h_ (by rw [e_]; rfl)) _; refine sqt ?_; exact BK344.out⟩, ⟨by refine sqt ?_; refine blk_far ?_ (by have h_ := Kd.R_ne HO_353001.out BK345.out (by decide); intro e_; exact h_ (by rw [e_]; rfl)) _; refine sqt ?_; exact BK345.out⟩, ⟨by refine sqt ?_; refine blk_far ?_ (by have h_ := Kd.R_ne HO_353001.out BK352.out (by decide); intro e_; exact h_ (by rw [e_]; rfl)) _; refine sqt ?_; exact BK352.out⟩, ⟨by repeat (first | (with_reducible first | exact HB.out | apply below_alloc | apply pw_below_drewN | apply below_drew1 | refine below_set ?_ GB53.out | refine below_set ?_ GE343.out | refine below_set ?_ GE344.out | refine below_set ?_ GE345.out | refine below_set ?_ GE352.out) | exact HB.out)⟩⟩
                  · rw [if_neg c51] at H
                    exact absurd H (by simp)
                · rw [if_neg c50] at H
                  exact absurd H (by simp)
              · rw [if_neg c49] at H
                exact absurd H (by simp)
            · rw [if_neg c48] at H
              have c48b0 : decide (x29_2 < (l1_1.length : Int)) = false := decide_eq_false c48
              clear c48
              simp only [Option.some.injEq, Prod.mk.injEq] at H
              obtain ⟨rfl, rfl⟩ := H
              have hnb57 := NB352_343.out
              have hnc57 := NB343_352.out
              have hnb58 := NB352_344.out
              have hnc58 := NB344_352.out
              have hnb59 := NB352_345.out
              have hnc59 := NB345_352.out
              obtain ⟨hcz60_0, hcz60_1, hfz60_0, hfz60_1⟩ := sqc2 BK352
              have hnb61 := NB345_343.out
              have hnc61 := NB343_345.out
              have hnb62 := NB345_344.out
              have hnc62 := NB344_345.out
              obtain ⟨hcz63_0, hcz63_1, hfz63_0, hfz63_1⟩ := sqc2 BK345
              obtain ⟨Ao64, co64, eo64⟩ := Kd.R_slice HO_353001.out
              subst eo64
              go_wp2
              refine bodyPost_ret (results_cell_row rfl _ _ gb345 41 #[.int .i64 t348, .slice Ao64 x353001_2.length co64] (0, 0) _ rfl (by refine sqt ?_; refine blk_put (cs := #[.int .i64 t348, .slice none 0 0]) ?_ 1 _ rfl; refine sqt ?_; refine blk_put (cs := #[.int .i64 0, .slice none 0 0]) ?_ 0 _ rfl; refine sqt ?_; exact BK345.out) Try.underlying41 rfl (by kernel_rfl)) rfl ?_
              exact ⟨_, by first | rfl | (simp [errW_none, errW_some] <;> rfl) | (simp [*, errW_none, errW_some] <;> rfl), by (with_reducible repeat (first | apply Kd.R_alloc | apply Kd.R_drewN | apply Kd.R_drew)); exact Kd.R_mono (Kd.R_far (p := ⟨gb345, 1, none⟩) (Kd.R_far (p := ⟨gb345, 0, none⟩) (Kd.R_types HO_353001.out BK345.out (by decide)) (fun _ hk => hk.2) (.int .i64 t348)) (fun _ hk => hk.2) (.slice Ao64 x353001_2.length co64)) (fun _ hk => trivial), by repeat (first | (with_reducible first | exact HB.out | apply below_alloc | apply pw_below_drewN | apply below_drew1 | refine below_set ?_ GE343.out | refine below_set ?_ GE344.out | refine below_set ?_ GE345.out | refine below_set ?_ GE352.out) | exact HB.out)⟩

end Go.Proofs.Ytkekcenlleebeaa.PFnGapsJoin
