/- Functions of the program as plain Lean functions, and that calls of them come to what these tell. Conditions: those in each law. -/
import Derived.Test.YtkekcenlleebeaaSq
import Derived.Test.YtkekcenlleebeaaDFnValLattice
import Derived.Test.YtkekcenlleebeaaQFnValLatticex0
import Derived.Test.YtkekcenlleebeaaQFnValLatticex3
import Derived.Test.YtkekcenlleebeaaQFnValLatticex6
import Derived.Test.YtkekcenlleebeaaQFnValLatticex11
import Derived.Test.YtkekcenlleebeaaQFnValLatticex13
import Derived.Test.YtkekcenlleebeaaQFnValLatticex14
import Derived.Test.YtkekcenlleebeaaQFnValLatticex15
import Derived.Test.YtkekcenlleebeaaQFnValLatticex19
import Derived.Test.YtkekcenlleebeaaQFnValLatticex21
import Derived.Test.YtkekcenlleebeaaQFnValLatticex24
import Derived.Test.YtkekcenlleebeaaQFnValLatticex26
import Derived.Test.YtkekcenlleebeaaQFnValLatticex29
import Derived.Test.YtkekcenlleebeaaQFnValLatticex32
import Derived.Test.YtkekcenlleebeaaQFnValLatticex35
namespace Go.Proofs.Ytkekcenlleebeaa.PFnValLattice
open Go.RowKit Go.Proofs.Ytkekcenlleebeaa.Sq Go.Proofs.YtkekcenlleebeaaW.PrintWords Go.Proofs.YtkekcenlleebeaaW.PrintLast Go.Proofs.YtkekcenlleebeaaW.PrintMore
attribute [local go_sem] max2_int min2_int max_two min_two max_three min_three max_four min_four   -- for this text's walks alone
set_option linter.unusedVariables false
set_option linter.unusedSimpArgs false

attribute [local go_sem high] eqA30
/-! ### laws_FnValLattice: function 14 -/
def laws_FnValLattice.T7 : Bool × List (List Nat × List Nat) := (true, [([], []), ([], []), ([], []), ([1, 2], [1, 2]), ([0, 3], [0, 3]), ([4, 3], [4]), ([5], [5]), ([5], [5]), ([5], [5]), ([7, 8, 5, 5], [5, 7, 8]), ([6, 9, 5], [5, 6, 9]), ([5, 10], [5, 10]), ([11, 9], [11]), ([12], [12]), ([12], [12]), ([12], [12]), ([12], [12]), ([14, 15, 16, 12, 12], [12, 14, 15, 16]), ([13, 17, 12], [12, 13, 17]), ([12, 18], [12, 18])])
def laws_FnValLattice.B7 : List Nat := [0, 0, 0, 6, 15, 31, 63, 63, 63, 447, 1023, 2047, 4095, 8191, 8191, 8191, 8191, 122879, 262143, 524287]
theorem laws_FnValLattice.tab7 : rtab .any (opsOf Try.f14 7) = laws_FnValLattice.T7 := by kernel_rfl
theorem laws_FnValLattice.bits7 : waitsOk laws_FnValLattice.T7.2 laws_FnValLattice.B7 = true := by kernel_rfl
set_option maxHeartbeats 8000000 in
set_option maxRecDepth 100000 in
theorem laws_FnValLattice.calls (k : Nat) (A0 : Option Addr) (c0 : Nat) (l0 : List Int) (r : Bool) (w : World) (hr0 : Kd.C (Kd.int .u8) w A0 l0.length l0) (hc0 : l0.length ≤ c0) (h : laws_FnValLattice.f k l0 = some r) (hr_ : r = true := by rfl) :
  Calls Try.prog 14 #[.slice A0 l0.length c0] w fun e w' => e = .returned (.bool r) ∧ Below w.heap.size w w' := by
 subst hr_
 have hu30 := Try.underlying30
 have HR0 := Aside0.mk hr0
 have HC0 := Aside0.mk hc0
 clear hr0 hc0
 have HB := Aside0.mk (Below.refl w.heap.size w)
 have H := h
 unfold laws_FnValLattice.f at H
 clear h
 replace H := sqj H
 rcases H with ⟨c2, H⟩ | ⟨c2, H⟩
 ·have c2b0 : decide (1048576 < (l0.length : Int)) = true := decide_eq_true c2
  have c2b1 : decide (1048576 < l0.length) = true := decide_eq_true (by omega)
  clear c2
  clear H
  go_enter Try.func14, Try.ntmps14
  go_wp2
  go_ret
  exact sqe HB
 have c2b0 : decide (1048576 < (l0.length : Int)) = false := decide_eq_false c2
 have c2b1 : decide (1048576 < l0.length) = false := decide_eq_false (by omega)
 clear c2
 replace H := sqbi H
 obtain ⟨⟨t843, t844, t845, t846, t847, t848, t849, t850, t851⟩, A3, H⟩ := H
 try dsimp only at H
 replace H := sqbi H
 obtain ⟨⟨t856, t857, t858, t859⟩, A4, H⟩ := H
 try dsimp only at H
 replace H := sqbi H
 obtain ⟨⟨t861, t862, t863, t864⟩, A5, H⟩ := H
 try dsimp only at H
 replace H := sqbi H
 obtain ⟨⟨t866, t867, t868, t869⟩, A6, H⟩ := H
 try dsimp only at H
 have HC7 := Aside0.mk H
 clear H
 go_enter Try.func14, Try.ntmps14
 go_upto_region 7 with (first | ((with_reducible refine gate_callee (f := 85) rfl ?_); refine sqL (some 16) Try.func85 #[.slice A0 l0.length c0] ?_; (with_reducible refine (spec_DrawValWiden.calls k _ _ l0 t843 t844 t845 t846 t847 t848 t849 t850 t851 _ ?side1 ?side2 A3.out).mono ?_); (case side1 => exact sqC HR0.out); (case side2 => exact HC0.out); rintro e w8 ⟨v852, rfl, ho0, hb⟩; refine ⟨_, rfl, ?_⟩; have HO853 := Aside0.mk (Kd.R_lower ho0 (below_size (sqB HB))); replace HB := sqs HB hb; (try clear hb); (try clear hb2); (try clear hk); (try clear hi); (try clear ho0)) | ((with_reducible refine gate_dst (N := 3) rfl ?_); refine sqx 3 #[.int .i64 0, .int .i64 0, .int .i64 0, .int .i64 0] 30 ?_; intro gb854 hg w9 hbox hb; replace HO853 := Aside0.mk (Kd.R_below (sqy HO853.out) hb); have BK854 := Aside0.mk (hbox); have GW854 := sqg HB hg; replace HB := sqs HB hb; clear hb hbox hg) | ((with_reducible refine gate_dst (N := 4) rfl ?_); refine sqx 4 #[.int .i64 0, .int .i64 0, .int .i64 0, .int .i64 0] 30 ?_; intro gb855 hg w10 hbox hb; replace HO853 := Aside0.mk (Kd.R_below (sqy HO853.out) hb); have BK855 := Aside0.mk (hbox); have GW855 := sqg HB hg; replace HB := sqs HB hb; have NB854_855 := sqn BK854 hg; have NB855_854 := sqm BK854 hg; replace BK854 := sqb BK854 hb; clear hb hbox hg; obtain ⟨_, _⟩ := sqN1 NB854_855; obtain ⟨_, _, _, _, _, _, _, _⟩ := sqc4 BK854; obtain ⟨_, _, _, _, _, _, _, _⟩ := sqc4 BK855) | ((with_reducible refine gate_callee (f := 86) rfl ?_); refine sqL (some 22) Try.func86 #[.agg #[.int .i64 t843, .int .i64 t844, .int .i64 t845, .int .i64 t846], .agg #[.int .i64 t847, .int .i64 t848, .int .i64 t849, .int .i64 t850]] ?_; (with_reducible refine (impl_ValJoin.calls k t843 t844 t845 t846 t847 t848 t849 t850 t856 t857 t858 t859 _ A4.out).mono ?_); rintro e w14 ⟨rfl, hb⟩; refine ⟨_, rfl, ?_⟩; have n0_ := Aside0.mk (Kd.R_below (by (with_reducible repeat (first | apply Kd.R_alloc | apply Kd.R_drewN | apply Kd.R_drew)); exact (Kd.R_mono (Kd.R_mono (Kd.R_far (p := ⟨gb855, 3, none⟩) (Kd.R_far (p := ⟨gb855, 2, none⟩) (Kd.R_far (p := ⟨gb855, 1, none⟩) (Kd.R_far (p := ⟨gb855, 0, none⟩) (Kd.R_far (p := ⟨gb854, 3, none⟩) (Kd.R_far (p := ⟨gb854, 2, none⟩) (Kd.R_far (p := ⟨gb854, 1, none⟩) (Kd.R_far (p := ⟨gb854, 0, none⟩) (Kd.R_types (Kd.R_types HO853.out BK854.out (by decide)) BK855.out (by decide)) (fun _ hk => hk.1.2) (.int .i64 t843)) (fun _ hk => hk.1.2) (.int .i64 t844)) (fun _ hk => hk.1.2) (.int .i64 t845)) (fun _ hk => hk.1.2) (.int .i64 t846)) (fun _ hk => hk.2) (.int .i64 t847)) (fun _ hk => hk.2) (.int .i64 t848)) (fun _ hk => hk.2) (.int .i64 t849)) (fun _ hk => hk.2) (.int .i64 t850)) (fun _ h_ => h_.1)) (fun _ h_ => h_.1))) hb); have n1_ := Aside0.mk (blk_below (g := gb854) (o := .cells #[.int .i64 t843, .int .i64 t844, .int .i64 t845, .int .i64 t846] 30 (0, 0)) (sqP BK854) hb); have n2_ := Aside0.mk (blk_below (g := gb855) (o := .cells #[.int .i64 t847, .int .i64 t848, .int .i64 t849, .int .i64 t850] 30 (0, 0)) (sqP BK855) hb); have n3_ := sqs HB hb; clear HO853; clear BK854; clear BK855; clear HB; have HO853 := n0_; have BK854 := n1_; have BK855 := n2_; have HB := n3_; clear n0_ n1_ n2_ n3_; (try clear hb); (try clear hb2); (try clear hk); (try clear hi)) | ((with_reducible refine gate_dst (N := 6) rfl ?_); refine sqx 6 #[.int .i64 0, .int .i64 0, .int .i64 0, .int .i64 0] 30 ?_; intro gb860 hg w15 hbox hb; replace HO853 := Aside0.mk (Kd.R_below (sqy HO853.out) hb); have BK860 := Aside0.mk (hbox); have GW860 := sqg HB hg; replace HB := sqs HB hb; have NB854_860 := sqn BK854 hg; have NB860_854 := sqm BK854 hg; replace BK854 := sqb BK854 hb; have NB855_860 := sqn BK855 hg; have NB860_855 := sqm BK855 hg; replace BK855 := sqb BK855 hb; clear hb hbox hg; obtain ⟨_, _, _, _⟩ := sqN2 NB860_854 NB860_855; obtain ⟨_, _, _, _, _, _, _, _⟩ := sqc4 BK860; obtain ⟨_, _, _, _, _, _, _, _⟩ := sqc4 BK854; obtain ⟨_, _, _, _, _, _, _, _⟩ := sqc4 BK855) | ((with_reducible refine gate_callee (f := 87) rfl ?_); refine sqL (some 25) Try.func87 #[.agg #[.int .i64 t843, .int .i64 t844, .int .i64 t845, .int .i64 t846], .agg #[.int .i64 t847, .int .i64 t848, .int .i64 t849, .int .i64 t850]] ?_; (with_reducible refine (impl_ValMeet.calls k t843 t844 t845 t846 t847 t848 t849 t850 t861 t862 t863 t864 _ A5.out).mono ?_); rintro e w21 ⟨rfl, hb⟩; refine ⟨_, rfl, ?_⟩; have n0_ := Aside0.mk (Kd.R_below (by (with_reducible repeat (first | apply Kd.R_alloc | apply Kd.R_drewN | apply Kd.R_drew)); exact (Kd.R_mono (Kd.R_far (p := ⟨gb860, 3, none⟩) (Kd.R_far (p := ⟨gb860, 2, none⟩) (Kd.R_far (p := ⟨gb860, 1, none⟩) (Kd.R_far (p := ⟨gb860, 0, none⟩) (Kd.R_types HO853.out BK860.out (by decide)) (fun _ hk => hk.2) (.int .i64 t856)) (fun _ hk => hk.2) (.int .i64 t857)) (fun _ hk => hk.2) (.int .i64 t858)) (fun _ hk => hk.2) (.int .i64 t859)) (fun _ h_ => h_.1))) hb); have n1_ := sqbb BK854 hb; have n2_ := sqbb BK855 hb; have n3_ := Aside0.mk (blk_below (g := gb860) (o := .cells #[.int .i64 t856, .int .i64 t857, .int .i64 t858, .int .i64 t859] 30 (0, 0)) (sqP BK860) hb); have n4_ := sqs HB hb; clear HO853; clear BK854; clear BK855; clear BK860; clear HB; have HO853 := n0_; have BK854 := n1_; have BK855 := n2_; have BK860 := n3_; have HB := n4_; clear n0_ n1_ n2_ n3_ n4_; (try clear hb); (try clear hb2); (try clear hk); (try clear hi)) | ((with_reducible refine gate_dst (N := 7) rfl ?_); refine sqx 7 #[.int .i64 0, .int .i64 0, .int .i64 0, .int .i64 0] 30 ?_; intro gb865 hg w22 hbox hb; replace HO853 := Aside0.mk (Kd.R_below (sqy HO853.out) hb); have BK865 := Aside0.mk (hbox); have GW865 := sqg HB hg; replace HB := sqs HB hb; have NB854_865 := sqn BK854 hg; have NB865_854 := sqm BK854 hg; replace BK854 := sqb BK854 hb; have NB855_865 := sqn BK855 hg; have NB865_855 := sqm BK855 hg; replace BK855 := sqb BK855 hb; have NB860_865 := sqn BK860 hg; have NB865_860 := sqm BK860 hg; replace BK860 := sqb BK860 hb; clear hb hbox hg; obtain ⟨_, _, _, _, _, _⟩ := sqN3 NB865_854 NB865_855 NB865_860; obtain ⟨_, _, _, _, _, _, _, _⟩ := sqc4 BK865; obtain ⟨_, _, _, _, _, _, _, _⟩ := sqc4 BK854; obtain ⟨_, _, _, _, _, _, _, _⟩ := sqc4 BK855; obtain ⟨Ao29, co29, eo29⟩ := Kd.R_slice HO853.out; subst eo29) | ((with_reducible refine gate_callee (f := 88) rfl ?_); refine sqL (some 29) Try.func88 #[.agg #[.int .i64 t843, .int .i64 t844, .int .i64 t845, .int .i64 t846], .agg #[.int .i64 t847, .int .i64 t848, .int .i64 t849, .int .i64 t850], .slice Ao29 t851.length co29] ?_; (with_reducible refine (impl_ValWiden.calls k t843 t844 t845 t846 t847 t848 t849 t850 _ _ t851 t866 t867 t868 t869 _ ?side1 ?side2 A6.out).mono ?_); (case side1 => refine (Kd.R_reads' (e := 3) (base := w.heap.size) (ok := fun k_ => True) (n := t851.length) (c := co29) ?_).2.2; exact (by (with_reducible repeat (first | apply Kd.R_alloc | apply Kd.R_drewN | apply Kd.R_drew)); exact (Kd.R_mono (Kd.R_far (p := ⟨gb865, 3, none⟩) (Kd.R_far (p := ⟨gb865, 2, none⟩) (Kd.R_far (p := ⟨gb865, 1, none⟩) (Kd.R_far (p := ⟨gb865, 0, none⟩) (Kd.R_types HO853.out BK865.out (by decide)) (fun _ hk => hk.2) (.int .i64 t861)) (fun _ hk => hk.2) (.int .i64 t862)) (fun _ hk => hk.2) (.int .i64 t863)) (fun _ hk => hk.2) (.int .i64 t864)) (fun _ h_ => h_.1)))); (case side2 => exact (Kd.R_reads' HO853.out).2.1); rintro e w30 ⟨rfl, hb⟩; refine ⟨_, rfl, ?_⟩; have n0_ := Aside0.mk (Kd.R_below (by (with_reducible repeat (first | apply Kd.R_alloc | apply Kd.R_drewN | apply Kd.R_drew)); exact (Kd.R_mono (Kd.R_far (p := ⟨gb865, 3, none⟩) (Kd.R_far (p := ⟨gb865, 2, none⟩) (Kd.R_far (p := ⟨gb865, 1, none⟩) (Kd.R_far (p := ⟨gb865, 0, none⟩) (Kd.R_types HO853.out BK865.out (by decide)) (fun _ hk => hk.2) (.int .i64 t861)) (fun _ hk => hk.2) (.int .i64 t862)) (fun _ hk => hk.2) (.int .i64 t863)) (fun _ hk => hk.2) (.int .i64 t864)) (fun _ h_ => h_.1))) hb); have n1_ := sqbb BK854 hb; have n2_ := sqbb BK855 hb; have n3_ := sqbb BK860 hb; have n4_ := Aside0.mk (blk_below (g := gb865) (o := .cells #[.int .i64 t861, .int .i64 t862, .int .i64 t863, .int .i64 t864] 30 (0, 0)) (sqP BK865) hb); have n5_ := sqs HB hb; clear HO853; clear BK854; clear BK855; clear BK860; clear BK865; clear HB; have HO853 := n0_; have BK854 := n1_; have BK855 := n2_; have BK860 := n3_; have BK865 := n4_; have HB := n5_; clear n0_ n1_ n2_ n3_ n4_ n5_; (try clear hb); (try clear hb2); (try clear hk); (try clear hi)) | ((with_reducible refine gate_dst (N := 8) rfl ?_); refine sqx 8 #[.int .i64 0, .int .i64 0, .int .i64 0, .int .i64 0] 30 ?_; intro gb870 hg w31 hbox hb; replace HO853 := Aside0.mk (Kd.R_below (sqy HO853.out) hb); have BK870 := Aside0.mk (hbox); have GW870 := sqg HB hg; replace HB := sqs HB hb; have NB854_870 := sqn BK854 hg; have NB870_854 := sqm BK854 hg; replace BK854 := sqb BK854 hb; have NB855_870 := sqn BK855 hg; have NB870_855 := sqm BK855 hg; replace BK855 := sqb BK855 hb; have NB860_870 := sqn BK860 hg; have NB870_860 := sqm BK860 hg; replace BK860 := sqb BK860 hb; have NB865_870 := sqn BK865 hg; have NB870_865 := sqm BK865 hg; replace BK865 := sqb BK865 hb; clear hb hbox hg; obtain ⟨_, _, _, _, _, _, _, _⟩ := sqN4 NB870_854 NB870_855 NB870_860 NB870_865; obtain ⟨_, _, _, _, _, _, _, _⟩ := sqc4 BK870))
 (try simp only [Act.put, List.setIfInBounds_toArray, List.set_cons_zero, List.set_cons_succ])
 go_cut [49] (fun v49 wc => ∃ (kq : Nat) (x49_6 : Bool), v49 = .bool x49_6 ∧ Aside0 (laws_FnValLattice.j0 kq l0 x49_6 t843 t844 t845 t846 t847 t848 t849 t850 t856 t857 t858 t859 t861 t862 t863 t864 t866 t867 t868 t869 = some true) ∧ Aside0 (kq ≤ k) ∧ Aside0 (wc.heap[gb854]? = some (.cells #[.int .i64 t843, .int .i64 t844, .int .i64 t845, .int .i64 t846] 30 (0, 0))) ∧ Aside0 (wc.heap[gb855]? = some (.cells #[.int .i64 t847, .int .i64 t848, .int .i64 t849, .int .i64 t850] 30 (0, 0))) ∧ Aside0 (wc.heap[gb860]? = some (.cells #[.int .i64 t856, .int .i64 t857, .int .i64 t858, .int .i64 t859] 30 (0, 0))) ∧ Aside0 (wc.heap[gb865]? = some (.cells #[.int .i64 t861, .int .i64 t862, .int .i64 t863, .int .i64 t864] 30 (0, 0))) ∧ Aside0 (wc.heap[gb870]? = some (.cells #[.int .i64 t866, .int .i64 t867, .int .i64 t868, .int .i64 t869] 30 (0, 0))) ∧ Aside0 (Below w.heap.size w wc))
 case first =>
  as_aux_lemma =>
  have H := HC7.out
  clear HC7
  replace H := sqbi H
  obtain ⟨⟨t871, t872, t873, t874⟩, A37, H⟩ := H
  try dsimp only at H
  replace H := sqj H
  rcases H with ⟨c38, H⟩ | ⟨c38, H⟩
  ·have c38b0 : (!(t856 == t871) || (!(t857 == t872) || (!(t858 == t873) || (!(t859 == t874))))) = true := c38
   clear c38
   (first | rw [c38b0] | (simp only [i64_w, i32_w]; rw [c38b0]) | skip)
   have H' := Aside0.mk H
   clear H
   try go_wp2
   obtain ⟨w39, hw_⟩ : ∃ w_, w_ = ((((w31.setCell ⟨gb870, 0, none⟩ (.int .i64 t866)).setCell ⟨gb870, 1, none⟩ (.int .i64 t867)).setCell ⟨gb870, 2, none⟩ (.int .i64 t868)).setCell ⟨gb870, 3, none⟩ (.int .i64 t869)) := ⟨_, rfl⟩
   replace HO853 : Aside0 (Kd.R (Kd.int .i64) 3 w39 w.heap.size (fun _ => True) (.slice Ao29 t851.length co29) t851) := by rw [hw_]; exact ⟨by (with_reducible repeat (first | apply Kd.R_alloc | apply Kd.R_drewN | apply Kd.R_drew)); exact Kd.R_mono (Kd.R_far (p := ⟨gb870, 3, none⟩) (Kd.R_far (p := ⟨gb870, 2, none⟩) (Kd.R_far (p := ⟨gb870, 1, none⟩) (Kd.R_far (p := ⟨gb870, 0, none⟩) (Kd.R_types HO853.out BK870.out (by decide)) (fun _ hk => hk.2) (.int .i64 t866)) (fun _ hk => hk.2) (.int .i64 t867)) (fun _ hk => hk.2) (.int .i64 t868)) (fun _ hk => hk.2) (.int .i64 t869)) (fun _ hk => trivial)⟩
   replace BK854 := sqTe hw_ BK854
   replace BK855 := sqTe hw_ BK855
   replace BK860 := sqTe hw_ BK860
   replace BK865 := sqTe hw_ BK865
   replace BK870 : Aside0 (w39.heap[gb870]? = some (.cells #[.int .i64 t866, .int .i64 t867, .int .i64 t868, .int .i64 t869] 30 (0, 0))) := by rw [hw_]; exact ⟨sqP BK870⟩
   replace HB : Aside0 (Below w.heap.size w w39) := by rw [hw_]; exact sqh HB
   rw [← hw_]
   clear hw_
   replace HO853 := Aside0.mk (Kd.R_drew HO853.out)
   replace BK854 := sqdr BK854
   replace BK855 := sqdr BK855
   replace BK860 := sqdr BK860
   replace BK865 := sqdr BK865
   replace BK870 := sqdr BK870
   replace HB := sqdB HB
   refine sqst 20 (fun w' => w'.cell? ⟨gb860, 0, none⟩ = some (.int .i64 t856) ∧ w'.cell? ⟨gb860, 1, none⟩ = some (.int .i64 t857) ∧ w'.cell? ⟨gb860, 2, none⟩ = some (.int .i64 t858) ∧ w'.cell? ⟨gb860, 3, none⟩ = some (.int .i64 t859) ∧ w'.cell? ⟨gb854, 0, none⟩ = some (.int .i64 t843) ∧ w'.cell? ⟨gb854, 1, none⟩ = some (.int .i64 t844) ∧ w'.cell? ⟨gb854, 2, none⟩ = some (.int .i64 t845) ∧ w'.cell? ⟨gb854, 3, none⟩ = some (.int .i64 t846) ∧ w'.cell? ⟨gb855, 0, none⟩ = some (.int .i64 t847) ∧ w'.cell? ⟨gb855, 1, none⟩ = some (.int .i64 t848) ∧ w'.cell? ⟨gb855, 2, none⟩ = some (.int .i64 t849) ∧ w'.cell? ⟨gb855, 3, none⟩ = some (.int .i64 t850)) sqz (fun hHeld => ?_); refine with_tabW laws_FnValLattice.tab7 laws_FnValLattice.bits7 (fun HT_ HW_ => ?_)
   generalize w39.drew = w40 at HO853 BK854 BK855 BK860 BK865 BK870 HB hHeld ⊢
   refine sqw HT_ HW_ 0 30 hHeld ?_
   refine sqw HT_ HW_ 1 31 hHeld ?_
   refine sqw HT_ HW_ 2 32 hHeld ?_
   refine sqo HT_ 3 33 (fun K hK => ?_)
   refine sqG Try.func89 #[.agg #[.int .i64 t843, .int .i64 t844, .int .i64 t845, .int .i64 t846], .agg #[.int .i64 t847, .int .i64 t848, .int .i64 t849, .int .i64 t850]] ?_
   with_reducible refine (spec_ValJoin.calls k t843 t844 t845 t846 t847 t848 t849 t850 t871 t872 t873 t874 _ A37.out).mono ?_
   rintro e w41 ⟨rfl, hb⟩
   refine ⟨_, rfl, ?_⟩
   replace HO853 := Aside0.mk (Kd.R_below (sqy HO853.out) hb)
   replace BK854 := sqb BK854 hb
   replace BK855 := sqb BK855 hb
   replace BK860 := sqb BK860 hb
   replace BK865 := sqb BK865 hb
   replace BK870 := sqb BK870 hb
   replace HB := sqs HB hb
   (try clear hb)
   refine hK.out _ _ sqz (fun hHeld => ?_)
   clear hK K
   refine sqnm ?_
   refine sqp HT_ 4 34 ?_
   refine sqp HT_ 5 35 ?_
   refine sqpu HT_ 6 36 ?_
   refine sqpu HT_ 7 37 ?_
   refine sqpu HT_ 8 38 ?_
   refine sqpu HT_ 9 39 ?_
   refine sqpu HT_ 10 40 ?_
   refine sqp HT_ 11 41 ?_
   refine sqp HT_ 12 42 ?_
   refine sqpu HT_ 13 43 ?_
   refine sqpu HT_ 14 44 ?_
   refine sqpu HT_ 15 45 ?_
   refine sqpu HT_ 16 46 ?_
   refine sqpu HT_ 17 47 ?_
   refine sqpu HT_ 18 48 ?_
   refine sqp HT_ 19 49 ?_
   refine done_ (done_of HT_.out (by kernel_rfl)) ?_
   try go_wp2
   go_meet
   case rel => exact ⟨_, (true), (by first | rfl | (simp; done) | (simp [*]; done)), H', ⟨by first | omega | exact Nat.le_refl _⟩, sqk BK854, sqk BK855, sqk BK860, sqk BK865, sqk BK870, sqh HB⟩
  have c38b0 : (!(t856 == t871) || (!(t857 == t872) || (!(t858 == t873) || (!(t859 == t874))))) = false := by simpa using c38
  clear c38
  (first | rw [c38b0] | (simp only [i64_w, i32_w]; rw [c38b0]) | skip)
  replace H := sqbi H
  obtain ⟨⟨t875, t876, t877, t878⟩, A42, H⟩ := H
  try dsimp only at H
  replace H := sqj H
  rcases H with ⟨c43, H⟩ | ⟨c43, H⟩
  ·have c43b0 : (!(t861 == t875) || (!(t862 == t876) || (!(t863 == t877) || (!(t864 == t878))))) = true := c43
   clear c43
   have H' := Aside0.mk H
   clear H
   try go_wp2
   obtain ⟨w44, hw_⟩ : ∃ w_, w_ = ((((w31.setCell ⟨gb870, 0, none⟩ (.int .i64 t866)).setCell ⟨gb870, 1, none⟩ (.int .i64 t867)).setCell ⟨gb870, 2, none⟩ (.int .i64 t868)).setCell ⟨gb870, 3, none⟩ (.int .i64 t869)) := ⟨_, rfl⟩
   replace HO853 : Aside0 (Kd.R (Kd.int .i64) 3 w44 w.heap.size (fun _ => True) (.slice Ao29 t851.length co29) t851) := by rw [hw_]; exact ⟨by (with_reducible repeat (first | apply Kd.R_alloc | apply Kd.R_drewN | apply Kd.R_drew)); exact Kd.R_mono (Kd.R_far (p := ⟨gb870, 3, none⟩) (Kd.R_far (p := ⟨gb870, 2, none⟩) (Kd.R_far (p := ⟨gb870, 1, none⟩) (Kd.R_far (p := ⟨gb870, 0, none⟩) (Kd.R_types HO853.out BK870.out (by decide)) (fun _ hk => hk.2) (.int .i64 t866)) (fun _ hk => hk.2) (.int .i64 t867)) (fun _ hk => hk.2) (.int .i64 t868)) (fun _ hk => hk.2) (.int .i64 t869)) (fun _ hk => trivial)⟩
   replace BK854 := sqTe hw_ BK854
   replace BK855 := sqTe hw_ BK855
   replace BK860 := sqTe hw_ BK860
   replace BK865 := sqTe hw_ BK865
   replace BK870 : Aside0 (w44.heap[gb870]? = some (.cells #[.int .i64 t866, .int .i64 t867, .int .i64 t868, .int .i64 t869] 30 (0, 0))) := by rw [hw_]; exact ⟨sqP BK870⟩
   replace HB : Aside0 (Below w.heap.size w w44) := by rw [hw_]; exact sqh HB
   rw [← hw_]
   clear hw_
   replace HO853 := Aside0.mk (Kd.R_drew HO853.out)
   replace BK854 := sqdr BK854
   replace BK855 := sqdr BK855
   replace BK860 := sqdr BK860
   replace BK865 := sqdr BK865
   replace BK870 := sqdr BK870
   replace HB := sqdB HB
   refine sqst 20 (fun w' => w'.cell? ⟨gb860, 0, none⟩ = some (.int .i64 t856) ∧ w'.cell? ⟨gb860, 1, none⟩ = some (.int .i64 t857) ∧ w'.cell? ⟨gb860, 2, none⟩ = some (.int .i64 t858) ∧ w'.cell? ⟨gb860, 3, none⟩ = some (.int .i64 t859) ∧ w'.cell? ⟨gb854, 0, none⟩ = some (.int .i64 t843) ∧ w'.cell? ⟨gb854, 1, none⟩ = some (.int .i64 t844) ∧ w'.cell? ⟨gb854, 2, none⟩ = some (.int .i64 t845) ∧ w'.cell? ⟨gb854, 3, none⟩ = some (.int .i64 t846) ∧ w'.cell? ⟨gb855, 0, none⟩ = some (.int .i64 t847) ∧ w'.cell? ⟨gb855, 1, none⟩ = some (.int .i64 t848) ∧ w'.cell? ⟨gb855, 2, none⟩ = some (.int .i64 t849) ∧ w'.cell? ⟨gb855, 3, none⟩ = some (.int .i64 t850) ∧ w'.cell? ⟨gb865, 0, none⟩ = some (.int .i64 t861) ∧ w'.cell? ⟨gb865, 1, none⟩ = some (.int .i64 t862) ∧ w'.cell? ⟨gb865, 2, none⟩ = some (.int .i64 t863) ∧ w'.cell? ⟨gb865, 3, none⟩ = some (.int .i64 t864)) sqz (fun hHeld => ?_); refine with_tabW laws_FnValLattice.tab7 laws_FnValLattice.bits7 (fun HT_ HW_ => ?_)
   generalize w44.drew = w45 at HO853 BK854 BK855 BK860 BK865 BK870 HB hHeld ⊢
   refine sqw HT_ HW_ 0 30 hHeld ?_
   refine sqw HT_ HW_ 1 31 hHeld ?_
   refine sqw HT_ HW_ 2 32 hHeld ?_
   refine sqo HT_ 3 33 (fun K hK => ?_)
   refine sqG Try.func89 #[.agg #[.int .i64 t843, .int .i64 t844, .int .i64 t845, .int .i64 t846], .agg #[.int .i64 t847, .int .i64 t848, .int .i64 t849, .int .i64 t850]] ?_
   with_reducible refine (spec_ValJoin.calls k t843 t844 t845 t846 t847 t848 t849 t850 t871 t872 t873 t874 _ A37.out).mono ?_
   rintro e w46 ⟨rfl, hb⟩
   refine ⟨_, rfl, ?_⟩
   replace HO853 := Aside0.mk (Kd.R_below (sqy HO853.out) hb)
   replace BK854 := sqb BK854 hb
   replace BK855 := sqb BK855 hb
   replace BK860 := sqb BK860 hb
   replace BK865 := sqb BK865 hb
   replace BK870 := sqb BK870 hb
   replace HB := sqs HB hb
   (try clear hb)
   refine hK.out _ _ sqz (fun hHeld => ?_)
   clear hK K
   refine sqnm ?_
   refine sqp HT_ 4 34 ?_
   refine sqp HT_ 5 35 ?_
   refine sqw HT_ HW_ 6 36 hHeld ?_
   refine sqw HT_ HW_ 7 37 hHeld ?_
   refine sqw HT_ HW_ 8 38 hHeld ?_
   refine sqo HT_ 9 39 (fun K hK => ?_)
   refine sqG Try.func90 #[.agg #[.int .i64 t843, .int .i64 t844, .int .i64 t845, .int .i64 t846], .agg #[.int .i64 t847, .int .i64 t848, .int .i64 t849, .int .i64 t850]] ?_
   with_reducible refine (spec_ValMeet.calls k t843 t844 t845 t846 t847 t848 t849 t850 t875 t876 t877 t878 _ A42.out).mono ?_
   rintro e w47 ⟨rfl, hb⟩
   refine ⟨_, rfl, ?_⟩
   replace HO853 := Aside0.mk (Kd.R_below (sqy HO853.out) hb)
   replace BK854 := sqb BK854 hb
   replace BK855 := sqb BK855 hb
   replace BK860 := sqb BK860 hb
   replace BK865 := sqb BK865 hb
   replace BK870 := sqb BK870 hb
   replace HB := sqs HB hb
   (try clear hb)
   refine hK.out _ _ sqz (fun hHeld => ?_)
   clear hK K
   refine sqnm ?_
   refine sqp HT_ 10 40 ?_
   refine sqp HT_ 11 41 ?_
   refine sqp HT_ 12 42 ?_
   refine sqpu HT_ 13 43 ?_
   refine sqpu HT_ 14 44 ?_
   refine sqpu HT_ 15 45 ?_
   refine sqpu HT_ 16 46 ?_
   refine sqpu HT_ 17 47 ?_
   refine sqpu HT_ 18 48 ?_
   refine sqp HT_ 19 49 ?_
   refine done_ (done_of HT_.out (by kernel_rfl)) ?_
   try go_wp2
   go_meet
   case rel => exact ⟨_, (true), (by first | rfl | (simp; done) | (simp [*]; done)), H', ⟨by first | omega | exact Nat.le_refl _⟩, sqk BK854, sqk BK855, sqk BK860, sqk BK865, sqk BK870, sqh HB⟩
  have c43b0 : (!(t861 == t875) || (!(t862 == t876) || (!(t863 == t877) || (!(t864 == t878))))) = false := by simpa using c43
  clear c43
  replace H := sqbi H
  obtain ⟨⟨t879, t880, t881, t882⟩, A48, H⟩ := H
  try dsimp only at H
  have H' := Aside0.mk H
  clear H
  try go_wp2
  obtain ⟨w49, hw_⟩ : ∃ w_, w_ = ((((w31.setCell ⟨gb870, 0, none⟩ (.int .i64 t866)).setCell ⟨gb870, 1, none⟩ (.int .i64 t867)).setCell ⟨gb870, 2, none⟩ (.int .i64 t868)).setCell ⟨gb870, 3, none⟩ (.int .i64 t869)) := ⟨_, rfl⟩
  replace HO853 : Aside0 (Kd.R (Kd.int .i64) 3 w49 w.heap.size (fun _ => True) (.slice Ao29 t851.length co29) t851) := by rw [hw_]; exact ⟨by (with_reducible repeat (first | apply Kd.R_alloc | apply Kd.R_drewN | apply Kd.R_drew)); exact Kd.R_mono (Kd.R_far (p := ⟨gb870, 3, none⟩) (Kd.R_far (p := ⟨gb870, 2, none⟩) (Kd.R_far (p := ⟨gb870, 1, none⟩) (Kd.R_far (p := ⟨gb870, 0, none⟩) (Kd.R_types HO853.out BK870.out (by decide)) (fun _ hk => hk.2) (.int .i64 t866)) (fun _ hk => hk.2) (.int .i64 t867)) (fun _ hk => hk.2) (.int .i64 t868)) (fun _ hk => hk.2) (.int .i64 t869)) (fun _ hk => trivial)⟩
  replace BK854 := sqTe hw_ BK854
  replace BK855 := sqTe hw_ BK855
  replace BK860 := sqTe hw_ BK860
  replace BK865 := sqTe hw_ BK865
  replace BK870 : Aside0 (w49.heap[gb870]? = some (.cells #[.int .i64 t866, .int .i64 t867, .int .i64 t868, .int .i64 t869] 30 (0, 0))) := by rw [hw_]; exact ⟨sqP BK870⟩
  replace HB : Aside0 (Below w.heap.size w w49) := by rw [hw_]; exact sqh HB
  rw [← hw_]
  clear hw_
  replace HO853 := Aside0.mk (Kd.R_drew HO853.out)
  replace BK854 := sqdr BK854
  replace BK855 := sqdr BK855
  replace BK860 := sqdr BK860
  replace BK865 := sqdr BK865
  replace BK870 := sqdr BK870
  replace HB := sqdB HB
  refine sqst 20 (fun w' => w'.cell? ⟨gb860, 0, none⟩ = some (.int .i64 t856) ∧ w'.cell? ⟨gb860, 1, none⟩ = some (.int .i64 t857) ∧ w'.cell? ⟨gb860, 2, none⟩ = some (.int .i64 t858) ∧ w'.cell? ⟨gb860, 3, none⟩ = some (.int .i64 t859) ∧ w'.cell? ⟨gb854, 0, none⟩ = some (.int .i64 t843) ∧ w'.cell? ⟨gb854, 1, none⟩ = some (.int .i64 t844) ∧ w'.cell? ⟨gb854, 2, none⟩ = some (.int .i64 t845) ∧ w'.cell? ⟨gb854, 3, none⟩ = some (.int .i64 t846) ∧ w'.cell? ⟨gb855, 0, none⟩ = some (.int .i64 t847) ∧ w'.cell? ⟨gb855, 1, none⟩ = some (.int .i64 t848) ∧ w'.cell? ⟨gb855, 2, none⟩ = some (.int .i64 t849) ∧ w'.cell? ⟨gb855, 3, none⟩ = some (.int .i64 t850) ∧ w'.cell? ⟨gb865, 0, none⟩ = some (.int .i64 t861) ∧ w'.cell? ⟨gb865, 1, none⟩ = some (.int .i64 t862) ∧ w'.cell? ⟨gb865, 2, none⟩ = some (.int .i64 t863) ∧ w'.cell? ⟨gb865, 3, none⟩ = some (.int .i64 t864) ∧ w'.cell? ⟨gb870, 0, none⟩ = some (.int .i64 t866) ∧ w'.cell? ⟨gb870, 1, none⟩ = some (.int .i64 t867) ∧ w'.cell? ⟨gb870, 2, none⟩ = some (.int .i64 t868) ∧ w'.cell? ⟨gb870, 3, none⟩ = some (.int .i64 t869)) sqz (fun hHeld => ?_); refine with_tabW laws_FnValLattice.tab7 laws_FnValLattice.bits7 (fun HT_ HW_ => ?_)
  generalize w49.drew = w50 at HO853 BK854 BK855 BK860 BK865 BK870 HB hHeld ⊢
  refine sqw HT_ HW_ 0 30 hHeld ?_
  refine sqw HT_ HW_ 1 31 hHeld ?_
  refine sqw HT_ HW_ 2 32 hHeld ?_
  refine sqo HT_ 3 33 (fun K hK => ?_)
  refine sqG Try.func89 #[.agg #[.int .i64 t843, .int .i64 t844, .int .i64 t845, .int .i64 t846], .agg #[.int .i64 t847, .int .i64 t848, .int .i64 t849, .int .i64 t850]] ?_
  with_reducible refine (spec_ValJoin.calls k t843 t844 t845 t846 t847 t848 t849 t850 t871 t872 t873 t874 _ A37.out).mono ?_
  rintro e w51 ⟨rfl, hb⟩
  refine ⟨_, rfl, ?_⟩
  replace HO853 := Aside0.mk (Kd.R_below (sqy HO853.out) hb)
  replace BK854 := sqb BK854 hb
  replace BK855 := sqb BK855 hb
  replace BK860 := sqb BK860 hb
  replace BK865 := sqb BK865 hb
  replace BK870 := sqb BK870 hb
  replace HB := sqs HB hb
  (try clear hb)
  refine hK.out _ _ sqz (fun hHeld => ?_)
  clear hK K
  refine sqnm ?_
  refine sqp HT_ 4 34 ?_
  refine sqp HT_ 5 35 ?_
  refine sqw HT_ HW_ 6 36 hHeld ?_
  refine sqw HT_ HW_ 7 37 hHeld ?_
  refine sqw HT_ HW_ 8 38 hHeld ?_
  refine sqo HT_ 9 39 (fun K hK => ?_)
  refine sqG Try.func90 #[.agg #[.int .i64 t843, .int .i64 t844, .int .i64 t845, .int .i64 t846], .agg #[.int .i64 t847, .int .i64 t848, .int .i64 t849, .int .i64 t850]] ?_
  with_reducible refine (spec_ValMeet.calls k t843 t844 t845 t846 t847 t848 t849 t850 t875 t876 t877 t878 _ A42.out).mono ?_
  rintro e w52 ⟨rfl, hb⟩
  refine ⟨_, rfl, ?_⟩
  replace HO853 := Aside0.mk (Kd.R_below (sqy HO853.out) hb)
  replace BK854 := sqb BK854 hb
  replace BK855 := sqb BK855 hb
  replace BK860 := sqb BK860 hb
  replace BK865 := sqb BK865 hb
  replace BK870 := sqb BK870 hb
  replace HB := sqs HB hb
  (try clear hb)
  refine hK.out _ _ sqz (fun hHeld => ?_)
  clear hK K
  refine sqnm ?_
  refine sqp HT_ 10 40 ?_
  refine sqp HT_ 11 41 ?_
  refine sqp HT_ 12 42 ?_
  refine sqp HT_ 16 46 ?_
  refine sqw HT_ HW_ 13 43 hHeld ?_
  refine sqw HT_ HW_ 14 44 hHeld ?_
  refine sqw HT_ HW_ 15 45 hHeld ?_
  refine sqo HT_ 17 47 (fun K hK => ?_)
  refine sqG Try.func91 #[.agg #[.int .i64 t843, .int .i64 t844, .int .i64 t845, .int .i64 t846], .agg #[.int .i64 t847, .int .i64 t848, .int .i64 t849, .int .i64 t850], .slice Ao29 t851.length co29] ?_
  with_reducible refine (spec_ValWiden.calls k t843 t844 t845 t846 t847 t848 t849 t850 _ _ t851 t879 t880 t881 t882 _ ?side1 ?side2 A48.out).mono ?_
  (case side1 => exact sqC (Kd.R_reads' HO853.out).2.2)
  (case side2 => exact (Kd.R_reads' HO853.out).2.1)
  rintro e w53 ⟨rfl, hb⟩
  refine ⟨_, rfl, ?_⟩
  replace HO853 := Aside0.mk (Kd.R_below (sqy HO853.out) hb)
  replace BK854 := sqb BK854 hb
  replace BK855 := sqb BK855 hb
  replace BK860 := sqb BK860 hb
  replace BK865 := sqb BK865 hb
  replace BK870 := sqb BK870 hb
  replace HB := sqs HB hb
  (try clear hb)
  refine hK.out _ _ sqz (fun hHeld => ?_)
  clear hK K
  refine sqnm ?_
  refine sqp HT_ 18 48 ?_
  refine sqp HT_ 19 49 ?_
  refine done_ (done_of HT_.out (by kernel_rfl)) ?_
  try go_wp2
  go_meet
  case rel => exact ⟨_, ((!(t866 == t879) || (!(t867 == t880) || (!(t868 == t881) || (!(t869 == t882)))))), (by first | rfl | (simp; done) | (simp [*]; done)), H', ⟨by first | omega | exact Nat.le_refl _⟩, sqk BK854, sqk BK855, sqk BK860, sqk BK865, sqk BK870, sqh HB⟩
 case rest =>
  as_aux_lemma =>
  clear HC7
  obtain ⟨kq, x49_6, rfl, HA, HJ6, BK854, BK855, BK860, BK865, BK870, HB⟩ := hcut
  cases kq with
  | zero => exact absurd HA.out (by simp [laws_FnValLattice.j0])
  | succ kj6 =>
   have H := HA.out
   clear HA
   simp only [laws_FnValLattice.j0] at H
   by_cases c54 : x49_6 = true
   ·subst c54
    have H1 : (some false) = some true := by rw [if_pos rfl] at H; exact H
    clear H
    have H := H1
    clear H1
    exact absurd (Option.some.inj H) (by decide)
   replace c54 := Bool.eq_false_iff.mpr c54
   subst c54
   have H1 : ((spec_ValOk.f kj6 t843 t844 t845 t846).bind fun t883 => (if t883 = true then ((spec_ValOk.f kj6 t847 t848 t849 t850).bind fun t884 => (laws_FnValLattice.j1 kj6 l0 (!t884) t843 t844 t845 t846 t847 t848 t849 t850 t856 t857 t858 t859 t861 t862 t863 t864 t866 t867 t868 t869)) else (laws_FnValLattice.j1 kj6 l0 true t843 t844 t845 t846 t847 t848 t849 t850 t856 t857 t858 t859 t861 t862 t863 t864 t866 t867 t868 t869))) = some true := by rw [if_neg (show ¬ (false = true) by decide)] at H; exact H
   clear H
   have H := H1
   clear H1
   have HC55 := Aside0.mk H
   clear H
   go_upto_region 9 with (fail)
   go_cut [57] (fun v57 wc => ∃ (kq : Nat) (x57_54 : Bool), v57 = .bool x57_54 ∧ Aside0 (laws_FnValLattice.j1 kq l0 x57_54 t843 t844 t845 t846 t847 t848 t849 t850 t856 t857 t858 t859 t861 t862 t863 t864 t866 t867 t868 t869 = some true) ∧ Aside0 (kq ≤ kj6) ∧ Aside0 (wc.heap[gb854]? = some (.cells #[.int .i64 t843, .int .i64 t844, .int .i64 t845, .int .i64 t846] 30 (0, 0))) ∧ Aside0 (wc.heap[gb855]? = some (.cells #[.int .i64 t847, .int .i64 t848, .int .i64 t849, .int .i64 t850] 30 (0, 0))) ∧ Aside0 (wc.heap[gb860]? = some (.cells #[.int .i64 t856, .int .i64 t857, .int .i64 t858, .int .i64 t859] 30 (0, 0))) ∧ Aside0 (wc.heap[gb865]? = some (.cells #[.int .i64 t861, .int .i64 t862, .int .i64 t863, .int .i64 t864] 30 (0, 0))) ∧ Aside0 (wc.heap[gb870]? = some (.cells #[.int .i64 t866, .int .i64 t867, .int .i64 t868, .int .i64 t869] 30 (0, 0))) ∧ Aside0 (Below w.heap.size w wc))
   case first =>
    as_aux_lemma =>
    have H := HC55.out
    clear HC55
    replace H := sqbi H
    obtain ⟨t883, A56, H⟩ := H
    try dsimp only at H
    rcases sqI (t883 = true) with c57 | c57
    ·replace c57 := Bool.eq_false_iff.mpr c57
     subst c57
     have H1 : (laws_FnValLattice.j1 kj6 l0 true t843 t844 t845 t846 t847 t848 t849 t850 t856 t857 t858 t859 t861 t862 t863 t864 t866 t867 t868 t869) = some true := by rw [if_neg (show ¬ (false = true) by decide)] at H; exact H
     clear H
     have H := H1
     clear H1
     have H' := Aside0.mk H
     clear H
     obtain ⟨_, _, _, _, _, _, _, _⟩ := sqN4 NB854_855 NB854_860 NB854_865 NB854_870
     obtain ⟨_, _, _, _, _, _, _, _⟩ := sqc4 BK854
     go_wp2_with (first | ((with_reducible refine gate_callee (f := 80) rfl ?_); refine sqL (some 51) Try.func80 #[.agg #[.int .i64 t843, .int .i64 t844, .int .i64 t845, .int .i64 t846]] ?_; (with_reducible refine (spec_ValOk.calls kj6 t843 t844 t845 t846 false _ A56.out).mono ?_); rintro e w75 ⟨rfl, hb⟩; refine ⟨_, rfl, ?_⟩; refine sqM5 BK854 BK855 BK860 BK865 BK870 hb ?_; clear BK854 BK855 BK860 BK865 BK870; intro BK854 BK855 BK860 BK865 BK870; replace HB := sqs HB hb; (try clear hb)))
     go_meet
     case rel => exact ⟨_, (true), (by first | rfl | (simp; done) | (simp [*]; done)), H', ⟨by have := HJ6.out; first | omega | exact Nat.le_refl _⟩, sqk BK854, sqk BK855, sqk BK860, sqk BK865, sqk BK870, sqh HB⟩
    subst c57
    have H1 : ((spec_ValOk.f kj6 t847 t848 t849 t850).bind fun t884 => (laws_FnValLattice.j1 kj6 l0 (!t884) t843 t844 t845 t846 t847 t848 t849 t850 t856 t857 t858 t859 t861 t862 t863 t864 t866 t867 t868 t869)) = some true := by rw [if_pos rfl] at H; exact H
    clear H
    have H := H1
    clear H1
    replace H := sqbi H
    obtain ⟨t884, A58, H⟩ := H
    try dsimp only at H
    have H' := Aside0.mk H
    clear H
    obtain ⟨_, _, _, _, _, _, _, _⟩ := sqN4 NB854_855 NB854_860 NB854_865 NB854_870
    obtain ⟨_, _, _, _, _, _, _, _⟩ := sqc4 BK854
    go_wp2_with (first | ((with_reducible refine gate_callee (f := 80) rfl ?_); refine sqL (some 51) Try.func80 #[.agg #[.int .i64 t843, .int .i64 t844, .int .i64 t845, .int .i64 t846]] ?_; (with_reducible refine (spec_ValOk.calls kj6 t843 t844 t845 t846 true _ A56.out).mono ?_); rintro e w64 ⟨rfl, hb⟩; refine ⟨_, rfl, ?_⟩; refine sqM5 BK854 BK855 BK860 BK865 BK870 hb ?_; clear BK854 BK855 BK860 BK865 BK870; intro BK854 BK855 BK860 BK865 BK870; replace HB := sqs HB hb; (try clear hb); obtain ⟨_, _, _, _, _, _⟩ := sqN3 NB855_860 NB855_865 NB855_870; obtain ⟨_, _, _, _, _, _, _, _⟩ := sqc4 BK855) | (go_at_call 80; (with_reducible refine (spec_ValOk.calls kj6 t847 t848 t849 t850 t884 _ A58.out).mono ?_); rintro e w69 ⟨rfl, hb⟩; refine sqM5 BK854 BK855 BK860 BK865 BK870 hb ?_; clear BK854 BK855 BK860 BK865 BK870; intro BK854 BK855 BK860 BK865 BK870; replace HB := sqs HB hb; (try clear hb)))
    go_meet
    case rel => exact ⟨_, (!t884), (by first | rfl | (simp; done) | (simp [*]; done)), H', ⟨by have := HJ6.out; first | omega | exact Nat.le_refl _⟩, sqk BK854, sqk BK855, sqk BK860, sqk BK865, sqk BK870, sqh HB⟩
   case rest =>
    as_aux_lemma =>
    clear HC55
    obtain ⟨kq, x57_54, rfl, HA, HJ54, BK854, BK855, BK860, BK865, BK870, HB⟩ := hcut
    cases kq with
    | zero => exact absurd HA.out (by simp [laws_FnValLattice.j1])
    | succ kj54 =>
     have H := HA.out
     clear HA
     simp only [laws_FnValLattice.j1] at H
     by_cases c76 : x57_54 = true
     ·subst c76
      have H1 : (if t856 > t857 then (some (decide (t861 > t862))) else (some false)) = some true := by rw [if_pos rfl] at H; exact H
      clear H
      have H := H1
      clear H1
      replace H := sqi H
      rcases H with ⟨c77, H⟩ | ⟨c77, H⟩
      ·have c77b0 : decide (t857 < t856) = false := decide_eq_false c77
       clear c77
       exact absurd (Option.some.inj H) (by decide)
      have c77b0 : decide (t857 < t856) = true := decide_eq_true c77
      clear c77
      (first | (obtain rfl := Option.some.inj H) | (have ht_ : (_ == _) = true := Option.some.inj H; clear H) | (have ht_ := of_decide_eq_true (Option.some.inj H); clear H) | clear H)
      obtain ⟨_, _, _, _, _, _, _, _⟩ := sqN4 NB860_854 NB860_855 NB860_865 NB860_870
      obtain ⟨_, _, _, _, _, _, _, _⟩ := sqc4 BK860
      obtain ⟨_, _, _, _, _, _⟩ := sqN3 NB865_854 NB865_855 NB865_870
      obtain ⟨_, _, _, _, _, _, _, _⟩ := sqc4 BK865
      go_wp2
      go_ret
      exact sqe HB
     replace c76 := Bool.eq_false_iff.mpr c76
     subst c76
     have H1 : ((impl_ValIn.f kj54 t843 t844 t845 t846 t856 t857 t858 t859).bind fun t885 => (if t885 = true then ((impl_ValIn.f kj54 t847 t848 t849 t850 t856 t857 t858 t859).bind fun t886 => (if t886 = true then ((impl_ValIn.f kj54 t856 t857 t858 t859 t866 t867 t868 t869).bind fun t887 => (laws_FnValLattice.j2 kj54 l0 (!t887) t843 t844 t845 t846 t847 t848 t849 t850 t861 t862 t863 t864 t866 t867 t868 t869)) else (laws_FnValLattice.j2 kj54 l0 true t843 t844 t845 t846 t847 t848 t849 t850 t861 t862 t863 t864 t866 t867 t868 t869))) else (laws_FnValLattice.j2 kj54 l0 true t843 t844 t845 t846 t847 t848 t849 t850 t861 t862 t863 t864 t866 t867 t868 t869))) = some true := by rw [if_neg (show ¬ (false = true) by decide)] at H; exact H
     clear H
     have H := H1
     clear H1
     have HC92 := Aside0.mk H
     clear H
     go_upto_region 11 with (fail)
     go_cut [85] (fun v85 wc => ∃ (kq : Nat) (x85_91 : Bool), v85 = .bool x85_91 ∧ Aside0 (laws_FnValLattice.j2 kq l0 x85_91 t843 t844 t845 t846 t847 t848 t849 t850 t861 t862 t863 t864 t866 t867 t868 t869 = some true) ∧ Aside0 (kq ≤ kj54) ∧ Aside0 (wc.heap[gb854]? = some (.cells #[.int .i64 t843, .int .i64 t844, .int .i64 t845, .int .i64 t846] 30 (0, 0))) ∧ Aside0 (wc.heap[gb855]? = some (.cells #[.int .i64 t847, .int .i64 t848, .int .i64 t849, .int .i64 t850] 30 (0, 0))) ∧ Aside0 (wc.heap[gb860]? = some (.cells #[.int .i64 t856, .int .i64 t857, .int .i64 t858, .int .i64 t859] 30 (0, 0))) ∧ Aside0 (wc.heap[gb865]? = some (.cells #[.int .i64 t861, .int .i64 t862, .int .i64 t863, .int .i64 t864] 30 (0, 0))) ∧ Aside0 (wc.heap[gb870]? = some (.cells #[.int .i64 t866, .int .i64 t867, .int .i64 t868, .int .i64 t869] 30 (0, 0))) ∧ Aside0 (Below w.heap.size w wc))
     case first =>
      as_aux_lemma =>
      have H := HC92.out
      clear HC92
      replace H := sqbi H
      obtain ⟨t885, A93, H⟩ := H
      try dsimp only at H
      rcases sqI (t885 = true) with c94 | c94
      ·replace c94 := Bool.eq_false_iff.mpr c94
       subst c94
       have H1 : (laws_FnValLattice.j2 kj54 l0 true t843 t844 t845 t846 t847 t848 t849 t850 t861 t862 t863 t864 t866 t867 t868 t869) = some true := by rw [if_neg (show ¬ (false = true) by decide)] at H; exact H
       clear H
       have H := H1
       clear H1
       have H' := Aside0.mk H
       clear H
       obtain ⟨_, _, _, _, _, _, _, _⟩ := sqN4 NB854_855 NB854_860 NB854_865 NB854_870
       obtain ⟨_, _, _, _, _, _, _, _⟩ := sqc4 BK854
       obtain ⟨_, _, _, _, _, _⟩ := sqN3 NB860_855 NB860_865 NB860_870
       obtain ⟨_, _, _, _, _, _, _, _⟩ := sqc4 BK860
       go_wp2_with (first | ((with_reducible refine gate_callee (f := 81) rfl ?_); refine sqL (some 72) Try.func81 #[.agg #[.int .i64 t843, .int .i64 t844, .int .i64 t845, .int .i64 t846], .agg #[.int .i64 t856, .int .i64 t857, .int .i64 t858, .int .i64 t859]] ?_; (with_reducible refine (impl_ValIn.calls kj54 t843 t844 t845 t846 t856 t857 t858 t859 false _ A93.out).mono ?_); rintro e w141 ⟨rfl, hb⟩; refine ⟨_, rfl, ?_⟩; refine sqM5 BK854 BK855 BK860 BK865 BK870 hb ?_; clear BK854 BK855 BK860 BK865 BK870; intro BK854 BK855 BK860 BK865 BK870; replace HB := sqs HB hb; (try clear hb)))
       go_meet
       case rel => exact ⟨_, (true), (by first | rfl | (simp; done) | (simp [*]; done)), H', ⟨by have := HJ6.out; have := HJ54.out; first | omega | exact Nat.le_refl _⟩, sqk BK854, sqk BK855, sqk BK860, sqk BK865, sqk BK870, sqh HB⟩
      subst c94
      have H1 : ((impl_ValIn.f kj54 t847 t848 t849 t850 t856 t857 t858 t859).bind fun t886 => (if t886 = true then ((impl_ValIn.f kj54 t856 t857 t858 t859 t866 t867 t868 t869).bind fun t887 => (laws_FnValLattice.j2 kj54 l0 (!t887) t843 t844 t845 t846 t847 t848 t849 t850 t861 t862 t863 t864 t866 t867 t868 t869)) else (laws_FnValLattice.j2 kj54 l0 true t843 t844 t845 t846 t847 t848 t849 t850 t861 t862 t863 t864 t866 t867 t868 t869))) = some true := by rw [if_pos rfl] at H; exact H
      clear H
      have H := H1
      clear H1
      replace H := sqbi H
      obtain ⟨t886, A95, H⟩ := H
      try dsimp only at H
      rcases sqI (t886 = true) with c96 | c96
      ·replace c96 := Bool.eq_false_iff.mpr c96
       subst c96
       have H1 : (laws_FnValLattice.j2 kj54 l0 true t843 t844 t845 t846 t847 t848 t849 t850 t861 t862 t863 t864 t866 t867 t868 t869) = some true := by rw [if_neg (show ¬ (false = true) by decide)] at H; exact H
       clear H
       have H := H1
       clear H1
       have H' := Aside0.mk H
       clear H
       obtain ⟨_, _, _, _, _, _, _, _⟩ := sqN4 NB854_855 NB854_860 NB854_865 NB854_870
       obtain ⟨_, _, _, _, _, _, _, _⟩ := sqc4 BK854
       obtain ⟨_, _, _, _, _, _⟩ := sqN3 NB860_855 NB860_865 NB860_870
       obtain ⟨_, _, _, _, _, _, _, _⟩ := sqc4 BK860
       go_wp2_with (first | ((with_reducible refine gate_callee (f := 81) rfl ?_); refine sqL (some 72) Try.func81 #[.agg #[.int .i64 t843, .int .i64 t844, .int .i64 t845, .int .i64 t846], .agg #[.int .i64 t856, .int .i64 t857, .int .i64 t858, .int .i64 t859]] ?_; (with_reducible refine (impl_ValIn.calls kj54 t843 t844 t845 t846 t856 t857 t858 t859 true _ A93.out).mono ?_); rintro e w126 ⟨rfl, hb⟩; refine ⟨_, rfl, ?_⟩; refine sqM5 BK854 BK855 BK860 BK865 BK870 hb ?_; clear BK854 BK855 BK860 BK865 BK870; intro BK854 BK855 BK860 BK865 BK870; replace HB := sqs HB hb; (try clear hb); obtain ⟨_, _, _, _⟩ := sqN2 NB855_865 NB855_870; obtain ⟨_, _, _, _, _, _, _, _⟩ := sqc4 BK855; obtain ⟨_, _, _, _, _, _, _, _⟩ := sqc4 BK860) | (go_at_call 81; (with_reducible refine (impl_ValIn.calls kj54 t847 t848 t849 t850 t856 t857 t858 t859 false _ A95.out).mono ?_); rintro e w131 ⟨rfl, hb⟩; refine sqM5 BK854 BK855 BK860 BK865 BK870 hb ?_; clear BK854 BK855 BK860 BK865 BK870; intro BK854 BK855 BK860 BK865 BK870; replace HB := sqs HB hb; (try clear hb)))
       go_meet
       case rel => exact ⟨_, (true), (by first | rfl | (simp; done) | (simp [*]; done)), H', ⟨by have := HJ6.out; have := HJ54.out; first | omega | exact Nat.le_refl _⟩, sqk BK854, sqk BK855, sqk BK860, sqk BK865, sqk BK870, sqh HB⟩
      subst c96
      have H1 : ((impl_ValIn.f kj54 t856 t857 t858 t859 t866 t867 t868 t869).bind fun t887 => (laws_FnValLattice.j2 kj54 l0 (!t887) t843 t844 t845 t846 t847 t848 t849 t850 t861 t862 t863 t864 t866 t867 t868 t869)) = some true := by rw [if_pos rfl] at H; exact H
      clear H
      have H := H1
      clear H1
      replace H := sqbi H
      obtain ⟨t887, A97, H⟩ := H
      try dsimp only at H
      have H' := Aside0.mk H
      clear H
      obtain ⟨_, _, _, _, _, _, _, _⟩ := sqN4 NB854_855 NB854_860 NB854_865 NB854_870
      obtain ⟨_, _, _, _, _, _, _, _⟩ := sqc4 BK854
      obtain ⟨_, _, _, _, _, _⟩ := sqN3 NB860_855 NB860_865 NB860_870
      obtain ⟨_, _, _, _, _, _, _, _⟩ := sqc4 BK860
      go_wp2_with (first | ((with_reducible refine gate_callee (f := 81) rfl ?_); refine sqL (some 72) Try.func81 #[.agg #[.int .i64 t843, .int .i64 t844, .int .i64 t845, .int .i64 t846], .agg #[.int .i64 t856, .int .i64 t857, .int .i64 t858, .int .i64 t859]] ?_; (with_reducible refine (impl_ValIn.calls kj54 t843 t844 t845 t846 t856 t857 t858 t859 true _ A93.out).mono ?_); rintro e w107 ⟨rfl, hb⟩; refine ⟨_, rfl, ?_⟩; refine sqM5 BK854 BK855 BK860 BK865 BK870 hb ?_; clear BK854 BK855 BK860 BK865 BK870; intro BK854 BK855 BK860 BK865 BK870; replace HB := sqs HB hb; (try clear hb); obtain ⟨_, _, _, _⟩ := sqN2 NB855_865 NB855_870; obtain ⟨_, _, _, _, _, _, _, _⟩ := sqc4 BK855; obtain ⟨_, _, _, _, _, _, _, _⟩ := sqc4 BK860) | (go_at_call 81; (with_reducible refine (impl_ValIn.calls kj54 t847 t848 t849 t850 t856 t857 t858 t859 true _ A95.out).mono ?_); rintro e w112 ⟨rfl, hb⟩; refine sqM5 BK854 BK855 BK860 BK865 BK870 hb ?_; clear BK854 BK855 BK860 BK865 BK870; intro BK854 BK855 BK860 BK865 BK870; replace HB := sqs HB hb; (try clear hb); obtain ⟨_, _, _, _, _, _, _, _⟩ := sqc4 BK860; obtain ⟨_, _⟩ := sqN1 NB870_865; obtain ⟨_, _, _, _, _, _, _, _⟩ := sqc4 BK870) | (go_at_call 81; (with_reducible refine (impl_ValIn.calls kj54 t856 t857 t858 t859 t866 t867 t868 t869 t887 _ A97.out).mono ?_); rintro e w116 ⟨rfl, hb⟩; refine sqM5 BK854 BK855 BK860 BK865 BK870 hb ?_; clear BK854 BK855 BK860 BK865 BK870; intro BK854 BK855 BK860 BK865 BK870; replace HB := sqs HB hb; (try clear hb)))
      go_meet
      case rel => exact ⟨_, (!t887), (by first | rfl | (simp; done) | (simp [*]; done)), H', ⟨by have := HJ6.out; have := HJ54.out; first | omega | exact Nat.le_refl _⟩, sqk BK854, sqk BK855, sqk BK860, sqk BK865, sqk BK870, sqh HB⟩
     case rest =>
      as_aux_lemma =>
      clear HC92
      obtain ⟨kq, x85_91, rfl, HA, HJ91, BK854, BK855, BK860, BK865, BK870, HB⟩ := hcut
      cases kq with
      | zero => exact absurd HA.out (by simp [laws_FnValLattice.j2])
      | succ kj91 =>
       have H := HA.out
       clear HA
       simp only [laws_FnValLattice.j2] at H
       by_cases c142 : x85_91 = true
       ·subst c142
        have H1 : (some false) = some true := by rw [if_pos rfl] at H; exact H
        clear H
        have H := H1
        clear H1
        exact absurd (Option.some.inj H) (by decide)
       replace c142 := Bool.eq_false_iff.mpr c142
       subst c142
       have H1 : (laws_FnValLattice.l0 kj91 l0 0 t843 t844 t845 t846 t847 t848 t849 t850 t861 t862 t863 t864 t866 t867 t868 t869) = some true := by rw [if_neg (show ¬ (false = true) by decide)] at H; exact H
       clear H
       have H := H1
       clear H1
       have H' := Aside0.mk H
       clear H
       go_wp2
       go_loopg [9] kj91 (fun kq v9 w' => ∃ (x9_4 : Int), v9 = .int .i64 x9_4 ∧ Aside0 (laws_FnValLattice.l0 kq l0 x9_4 t843 t844 t845 t846 t847 t848 t849 t850 t861 t862 t863 t864 t866 t867 t868 t869 = some true) ∧ Aside0 (kq ≤ kj91) ∧ Aside0 (w'.heap[gb854]? = some (.cells #[.int .i64 t843, .int .i64 t844, .int .i64 t845, .int .i64 t846] 30 (0, 0))) ∧ Aside0 (w'.heap[gb855]? = some (.cells #[.int .i64 t847, .int .i64 t848, .int .i64 t849, .int .i64 t850] 30 (0, 0))) ∧ Aside0 (w'.heap[gb860]? = some (.cells #[.int .i64 t856, .int .i64 t857, .int .i64 t858, .int .i64 t859] 30 (0, 0))) ∧ Aside0 (w'.heap[gb865]? = some (.cells #[.int .i64 t861, .int .i64 t862, .int .i64 t863, .int .i64 t864] 30 (0, 0))) ∧ Aside0 (w'.heap[gb870]? = some (.cells #[.int .i64 t866, .int .i64 t867, .int .i64 t868, .int .i64 t869] 30 (0, 0))) ∧ Aside0 (Below w.heap.size w w'))
       case atStart => exact ⟨(0), (by first | rfl | (simp; done) | (simp [*]; done)), H', ⟨Nat.le_refl _⟩, sqk BK854, sqk BK855, sqk BK860, sqk BK865, sqk BK870, sqh HB⟩
       case round =>
        clear H'
        obtain ⟨x9_4, rfl, HA, HK4, BK854, BK855, BK860, BK865, BK870, HB⟩ := hrel
        cases gk with
        | zero => exact absurd HA.out (by simp [laws_FnValLattice.l0])
        | succ k4 =>
         have H := HA.out
         clear HA
         simp only [laws_FnValLattice.l0] at H
         replace H := sqi H
         rcases H with ⟨c143, H⟩ | ⟨c143, H⟩
         ·have c143b0 := decide_eq_false c143
          clear c143
          (first | (obtain rfl := Option.some.inj H) | (have ht_ : (_ == _) = true := Option.some.inj H; clear H) | (have ht_ := of_decide_eq_true (Option.some.inj H); clear H) | clear H)
          go_wp2
          go_ret
          exact sqe HB
         have c143b0 := decide_eq_true c143
         clear c143
         replace H := sqbi H
         obtain ⟨t888, A144, H⟩ := H
         try dsimp only at H
         replace H := sqbi H
         obtain ⟨t889, A145, H⟩ := H
         try dsimp only at H
         rcases sqI (t889 = true) with c146 | c146
         ·replace c146 := Bool.eq_false_iff.mpr c146
          subst c146
          have H1 : (laws_FnValLattice.l0 k4 l0 (wrap64 (x9_4 + 1)) t843 t844 t845 t846 t847 t848 t849 t850 t861 t862 t863 t864 t866 t867 t868 t869) = some true := by rw [if_neg (show ¬ (false = true) by decide)] at H; exact H
          clear H
          have H := H1
          clear H1
          have H' := Aside0.mk H
          clear H
          obtain ⟨_, _, _, _, _, _, _, _⟩ := sqN4 NB854_855 NB854_860 NB854_865 NB854_870
          obtain ⟨_, _, _, _, _, _, _, _⟩ := sqc4 BK854
          go_wp2_with (first | ((with_reducible refine gate_callee (f := 82) rfl ?_); refine sqL (some 93) Try.func82 #[.agg #[.int .i64 t843, .int .i64 t844, .int .i64 t845, .int .i64 t846], .slice A0 l0.length c0, .int .i64 x9_4] ?_; (with_reducible refine (laws_ofVal.calls k4 t843 t844 t845 t846 _ _ l0 x9_4 t888 _ ?side1 ?side2 A144.out).mono ?_); (case side1 => exact sqC (Kd.C_below HR0.out HB.out)); (case side2 => exact HC0.out); rintro e w228 ⟨rfl, hb⟩; refine ⟨_, rfl, ?_⟩; refine sqM5 BK854 BK855 BK860 BK865 BK870 hb ?_; clear BK854 BK855 BK860 BK865 BK870; intro BK854 BK855 BK860 BK865 BK870; replace HB := sqs HB hb; (try clear hb); obtain ⟨_, _, _, _, _, _, _, _⟩ := sqc4 BK854) | ((with_reducible refine gate_callee (f := 83) rfl ?_); refine sqL (some 96) Try.func83 #[.agg #[.int .i64 t843, .int .i64 t844, .int .i64 t845, .int .i64 t846], .int .i64 t888] ?_; (with_reducible refine (spec_ValHas.calls k4 t843 t844 t845 t846 t888 false _ A145.out).mono ?_); rintro e w230 ⟨rfl, hb⟩; refine ⟨_, rfl, ?_⟩; refine sqM5 BK854 BK855 BK860 BK865 BK870 hb ?_; clear BK854 BK855 BK860 BK865 BK870; intro BK854 BK855 BK860 BK865 BK870; replace HB := sqs HB hb; (try clear hb)))
          go_roundg k4
          case measure => have := HJ6.out; have := HJ54.out; have := HJ91.out; have := HK4.out; omega
          case rel => exact ⟨(wrap64 (x9_4 + 1)), (by first | rfl | (simp; done) | (simp [*]; done)), H', ⟨by have := HJ6.out; have := HJ54.out; have := HJ91.out; have := HK4.out; omega⟩, sqk BK854, sqk BK855, sqk BK860, sqk BK865, sqk BK870, sqh HB⟩
         subst c146
         have H1 : ((impl_ValHas.f k4 t866 t867 t868 t869 t888).bind fun t890 => (if t890 = true then ((spec_ValHas.f k4 t847 t848 t849 t850 t888).bind fun t891 => (if t891 = true then ((impl_ValHas.f k4 t861 t862 t863 t864 t888).bind fun t892 => (if t892 = true then (laws_FnValLattice.l0 k4 l0 (wrap64 (x9_4 + 1)) t843 t844 t845 t846 t847 t848 t849 t850 t861 t862 t863 t864 t866 t867 t868 t869) else (some false))) else (laws_FnValLattice.l0 k4 l0 (wrap64 (x9_4 + 1)) t843 t844 t845 t846 t847 t848 t849 t850 t861 t862 t863 t864 t866 t867 t868 t869))) else (some false))) = some true := by rw [if_pos rfl] at H; exact H
         clear H
         have H := H1
         clear H1
         replace H := sqbi H
         obtain ⟨t890, A147, H⟩ := H
         try dsimp only at H
         rcases sqI (t890 = true) with c148 | c148
         ·replace c148 := Bool.eq_false_iff.mpr c148
          subst c148
          have H1 : (some false) = some true := by rw [if_neg (show ¬ (false = true) by decide)] at H; exact H
          clear H
          have H := H1
          clear H1
          exact absurd (Option.some.inj H) (by decide)
         subst c148
         have H1 : ((spec_ValHas.f k4 t847 t848 t849 t850 t888).bind fun t891 => (if t891 = true then ((impl_ValHas.f k4 t861 t862 t863 t864 t888).bind fun t892 => (if t892 = true then (laws_FnValLattice.l0 k4 l0 (wrap64 (x9_4 + 1)) t843 t844 t845 t846 t847 t848 t849 t850 t861 t862 t863 t864 t866 t867 t868 t869) else (some false))) else (laws_FnValLattice.l0 k4 l0 (wrap64 (x9_4 + 1)) t843 t844 t845 t846 t847 t848 t849 t850 t861 t862 t863 t864 t866 t867 t868 t869))) = some true := by rw [if_pos rfl] at H; exact H
         clear H
         have H := H1
         clear H1
         replace H := sqbi H
         obtain ⟨t891, A149, H⟩ := H
         try dsimp only at H
         rcases sqI (t891 = true) with c150 | c150
         ·replace c150 := Bool.eq_false_iff.mpr c150
          subst c150
          have H1 : (laws_FnValLattice.l0 k4 l0 (wrap64 (x9_4 + 1)) t843 t844 t845 t846 t847 t848 t849 t850 t861 t862 t863 t864 t866 t867 t868 t869) = some true := by rw [if_neg (show ¬ (false = true) by decide)] at H; exact H
          clear H
          have H := H1
          clear H1
          have H' := Aside0.mk H
          clear H
          obtain ⟨_, _, _, _, _, _, _, _⟩ := sqN4 NB854_855 NB854_860 NB854_865 NB854_870
          obtain ⟨_, _, _, _, _, _, _, _⟩ := sqc4 BK854
          go_wp2_with (first | ((with_reducible refine gate_callee (f := 82) rfl ?_); refine sqL (some 93) Try.func82 #[.agg #[.int .i64 t843, .int .i64 t844, .int .i64 t845, .int .i64 t846], .slice A0 l0.length c0, .int .i64 x9_4] ?_; (with_reducible refine (laws_ofVal.calls k4 t843 t844 t845 t846 _ _ l0 x9_4 t888 _ ?side1 ?side2 A144.out).mono ?_); (case side1 => exact sqC (Kd.C_below HR0.out HB.out)); (case side2 => exact HC0.out); rintro e w198 ⟨rfl, hb⟩; refine ⟨_, rfl, ?_⟩; refine sqM5 BK854 BK855 BK860 BK865 BK870 hb ?_; clear BK854 BK855 BK860 BK865 BK870; intro BK854 BK855 BK860 BK865 BK870; replace HB := sqs HB hb; (try clear hb); obtain ⟨_, _, _, _, _, _, _, _⟩ := sqc4 BK854) | ((with_reducible refine gate_callee (f := 83) rfl ?_); refine sqL (some 96) Try.func83 #[.agg #[.int .i64 t843, .int .i64 t844, .int .i64 t845, .int .i64 t846], .int .i64 t888] ?_; (with_reducible refine (spec_ValHas.calls k4 t843 t844 t845 t846 t888 true _ A145.out).mono ?_); rintro e w200 ⟨rfl, hb⟩; refine ⟨_, rfl, ?_⟩; refine sqM5 BK854 BK855 BK860 BK865 BK870 hb ?_; clear BK854 BK855 BK860 BK865 BK870; intro BK854 BK855 BK860 BK865 BK870; replace HB := sqs HB hb; (try clear hb); obtain ⟨_, _, _, _, _, _⟩ := sqN3 NB870_855 NB870_860 NB870_865; obtain ⟨_, _, _, _, _, _, _, _⟩ := sqc4 BK870) | (go_at_call 19; (with_reducible refine (impl_ValHas.calls k4 t866 t867 t868 t869 t888 true _ A147.out).mono ?_); rintro e w205 ⟨rfl, hb⟩; refine sqM5 BK854 BK855 BK860 BK865 BK870 hb ?_; clear BK854 BK855 BK860 BK865 BK870; intro BK854 BK855 BK860 BK865 BK870; replace HB := sqs HB hb; (try clear hb); obtain ⟨_, _, _, _⟩ := sqN2 NB855_860 NB855_865; obtain ⟨_, _, _, _, _, _, _, _⟩ := sqc4 BK855) | (go_at_call 83; (with_reducible refine (spec_ValHas.calls k4 t847 t848 t849 t850 t888 false _ A149.out).mono ?_); rintro e w209 ⟨rfl, hb⟩; refine sqM5 BK854 BK855 BK860 BK865 BK870 hb ?_; clear BK854 BK855 BK860 BK865 BK870; intro BK854 BK855 BK860 BK865 BK870; replace HB := sqs HB hb; (try clear hb)))
          go_roundg k4
          case measure => have := HJ6.out; have := HJ54.out; have := HJ91.out; have := HK4.out; omega
          case rel => exact ⟨(wrap64 (x9_4 + 1)), (by first | rfl | (simp; done) | (simp [*]; done)), H', ⟨by have := HJ6.out; have := HJ54.out; have := HJ91.out; have := HK4.out; omega⟩, sqk BK854, sqk BK855, sqk BK860, sqk BK865, sqk BK870, sqh HB⟩
         subst c150
         have H1 : ((impl_ValHas.f k4 t861 t862 t863 t864 t888).bind fun t892 => (if t892 = true then (laws_FnValLattice.l0 k4 l0 (wrap64 (x9_4 + 1)) t843 t844 t845 t846 t847 t848 t849 t850 t861 t862 t863 t864 t866 t867 t868 t869) else (some false))) = some true := by rw [if_pos rfl] at H; exact H
         clear H
         have H := H1
         clear H1
         replace H := sqbi H
         obtain ⟨t892, A151, H⟩ := H
         try dsimp only at H
         rcases sqI (t892 = true) with c152 | c152
         ·replace c152 := Bool.eq_false_iff.mpr c152
          subst c152
          have H1 : (some false) = some true := by rw [if_neg (show ¬ (false = true) by decide)] at H; exact H
          clear H
          have H := H1
          clear H1
          exact absurd (Option.some.inj H) (by decide)
         subst c152
         have H1 : (laws_FnValLattice.l0 k4 l0 (wrap64 (x9_4 + 1)) t843 t844 t845 t846 t847 t848 t849 t850 t861 t862 t863 t864 t866 t867 t868 t869) = some true := by rw [if_pos rfl] at H; exact H
         clear H
         have H := H1
         clear H1
         have H' := Aside0.mk H
         clear H
         obtain ⟨_, _, _, _, _, _, _, _⟩ := sqN4 NB854_855 NB854_860 NB854_865 NB854_870
         obtain ⟨_, _, _, _, _, _, _, _⟩ := sqc4 BK854
         go_wp2_with (first | ((with_reducible refine gate_callee (f := 82) rfl ?_); refine sqL (some 93) Try.func82 #[.agg #[.int .i64 t843, .int .i64 t844, .int .i64 t845, .int .i64 t846], .slice A0 l0.length c0, .int .i64 x9_4] ?_; (with_reducible refine (laws_ofVal.calls k4 t843 t844 t845 t846 _ _ l0 x9_4 t888 _ ?side1 ?side2 A144.out).mono ?_); (case side1 => exact sqC (Kd.C_below HR0.out HB.out)); (case side2 => exact HC0.out); rintro e w158 ⟨rfl, hb⟩; refine ⟨_, rfl, ?_⟩; refine sqM5 BK854 BK855 BK860 BK865 BK870 hb ?_; clear BK854 BK855 BK860 BK865 BK870; intro BK854 BK855 BK860 BK865 BK870; replace HB := sqs HB hb; (try clear hb); obtain ⟨_, _, _, _, _, _, _, _⟩ := sqc4 BK854) | ((with_reducible refine gate_callee (f := 83) rfl ?_); refine sqL (some 96) Try.func83 #[.agg #[.int .i64 t843, .int .i64 t844, .int .i64 t845, .int .i64 t846], .int .i64 t888] ?_; (with_reducible refine (spec_ValHas.calls k4 t843 t844 t845 t846 t888 true _ A145.out).mono ?_); rintro e w160 ⟨rfl, hb⟩; refine ⟨_, rfl, ?_⟩; refine sqM5 BK854 BK855 BK860 BK865 BK870 hb ?_; clear BK854 BK855 BK860 BK865 BK870; intro BK854 BK855 BK860 BK865 BK870; replace HB := sqs HB hb; (try clear hb); obtain ⟨_, _, _, _, _, _⟩ := sqN3 NB870_855 NB870_860 NB870_865; obtain ⟨_, _, _, _, _, _, _, _⟩ := sqc4 BK870) | (go_at_call 19; (with_reducible refine (impl_ValHas.calls k4 t866 t867 t868 t869 t888 true _ A147.out).mono ?_); rintro e w165 ⟨rfl, hb⟩; refine sqM5 BK854 BK855 BK860 BK865 BK870 hb ?_; clear BK854 BK855 BK860 BK865 BK870; intro BK854 BK855 BK860 BK865 BK870; replace HB := sqs HB hb; (try clear hb); obtain ⟨_, _, _, _⟩ := sqN2 NB855_860 NB855_865; obtain ⟨_, _, _, _, _, _, _, _⟩ := sqc4 BK855) | (go_at_call 83; (with_reducible refine (spec_ValHas.calls k4 t847 t848 t849 t850 t888 true _ A149.out).mono ?_); rintro e w169 ⟨rfl, hb⟩; refine sqM5 BK854 BK855 BK860 BK865 BK870 hb ?_; clear BK854 BK855 BK860 BK865 BK870; intro BK854 BK855 BK860 BK865 BK870; replace HB := sqs HB hb; (try clear hb); obtain ⟨_, _⟩ := sqN1 NB865_860; obtain ⟨_, _, _, _, _, _, _, _⟩ := sqc4 BK865) | (go_at_call 19; (with_reducible refine (impl_ValHas.calls k4 t861 t862 t863 t864 t888 true _ A151.out).mono ?_); rintro e w172 ⟨rfl, hb⟩; refine sqM5 BK854 BK855 BK860 BK865 BK870 hb ?_; clear BK854 BK855 BK860 BK865 BK870; intro BK854 BK855 BK860 BK865 BK870; replace HB := sqs HB hb; (try clear hb)))
         go_roundg k4
         case measure => have := HJ6.out; have := HJ54.out; have := HJ91.out; have := HK4.out; omega
         case rel => exact ⟨(wrap64 (x9_4 + 1)), (by first | rfl | (simp; done) | (simp [*]; done)), H', ⟨by have := HJ6.out; have := HJ54.out; have := HJ91.out; have := HK4.out; omega⟩, sqk BK854, sqk BK855, sqk BK860, sqk BK865, sqk BK870, sqh HB⟩

/-- THE ONE PURE STATEMENT of laws_FnValLattice: yours. -/
theorem laws_FnValLattice.walk (P : laws_FnValLattice.Pure) (a0 : Option Addr) (len0 cap0 : Nat) (z0 : List Int) (w : World) (w0 : (a0 = none ∧ len0 = 0 ∧ cap0 = 0 ∧ z0 = []) ∨ ∃ x, a0 = some x ∧ len0 ≤ cap0 ∧ cap0 ≤ maxLen ∧ z0.length = cap0 ∧ (∀ i, i < z0.length → w.cell? (x.add i) = some (.int .u8 (z0.getD i 0))) ∧ ∀ n ∈ z0, (Lit.int .u8 n).wf = true) (y0 : len0 * 1 ≤ 140737488351232) :
  Calls Try.prog 14 #[.slice a0 len0 cap0] w fun e w' => e = .returned (.bool true) ∧ Below w.heap.size w w' := by
 obtain ⟨l0, rfl, hr0, hm0, hw0, hc0⟩ := ReadsInt.ofRowC w0
 obtain ⟨k, h⟩ := P l0 hm0 y0 hw0
 refine (laws_FnValLattice.calls k _ _ l0 true w (Kd.C_of_reads (d := (0 : Int)) (h1 := fun _ => rfl) hr0) hc0 h).mono ?_
 rintro e w' ⟨rfl, hd⟩
 exact ⟨rfl, hd⟩

end Go.Proofs.Ytkekcenlleebeaa.PFnValLattice
