/- Functions of the program as plain Lean functions, and that calls of them come to what these tell. Conditions: those in each law. -/
import Derived.Test.YtkekcenlleebeaaSq
import Derived.Test.YtkekcenlleebeaaDFnGapsClose
import Derived.Test.YtkekcenlleebeaaQFnGapsClosex0
import Derived.Test.YtkekcenlleebeaaQFnGapsClosex4
import Derived.Test.YtkekcenlleebeaaQFnGapsClosex5
import Derived.Test.YtkekcenlleebeaaQFnGapsClosex6
import Derived.Test.YtkekcenlleebeaaQFnGapsClosex8
import Derived.Test.YtkekcenlleebeaaQFnGapsClosex9
import Derived.Test.YtkekcenlleebeaaQFnGapsClosex10
import Derived.Test.YtkekcenlleebeaaQFnGapsClosex11
import Derived.Test.YtkekcenlleebeaaQFnGapsClosex12
namespace Go.Proofs.Ytkekcenlleebeaa.PFnGapsClose
open Go.RowKit Go.Proofs.Ytkekcenlleebeaa.Sq Go.Proofs.YtkekcenlleebeaaW.PrintWords Go.Proofs.YtkekcenlleebeaaW.PrintLast Go.Proofs.YtkekcenlleebeaaW.PrintMore
attribute [local go_sem] max2_int min2_int max_two min_two max_three min_three max_four min_four   -- for this text's walks alone
set_option linter.unusedVariables false
set_option linter.unusedSimpArgs false

/-! ### laws_FnGapsClose: function 4 -/
set_option maxHeartbeats 8000000 in
set_option maxRecDepth 100000 in
theorem laws_FnGapsClose.calls (k : Nat) (A0 : Option Addr) (c0 : Nat) (l0 : List Int) (r : Bool) (w : World) (hr0 : Kd.C (Kd.int .u8) w A0 l0.length l0) (hc0 : l0.length ≤ c0) (h : laws_FnGapsClose.f k l0 = some r) (hr_ : r = true := by rfl) :
  Calls Try.prog 4 #[.slice A0 l0.length c0] w fun e w' => e = .returned (.bool r) ∧ Below w.heap.size w w' := by
 subst hr_
 have hfd_ : ∀ (w : World) (n : Int) (A : Option Addr) (m c : Nat), (Instr.field 41 (.agg #[.int .i64 n, .slice A m c]) 1).run Try.prog w = .ok (.slice A m c) w := fun _ _ _ _ _ => by kernel_rfl
 have hu41 := Try.underlying41
 have HR0 := Aside0.mk hr0
 have HC0 := Aside0.mk hc0
 clear hr0 hc0
 have HB := Aside0.mk (Below.refl w.heap.size w)
 have H : (if (l0.length : Int) > 1048576 then (some true) else ((spec_DrawGapsHas.f k l0).bind fun bt312 => ((impl_GapsClose.f k bt312.1 bt312.2.1).bind fun bt320 => ((spec_GapsClose.f k bt312.1 bt312.2.1).bind fun bt326 => (if (bt320.2.2 != bt326.2.2) = true then (laws_FnGapsClose.j0 k bt312.2.2 bt320.2.2 true bt312.1 bt312.2.1 bt320.1 bt320.2.1) else (if bt320.1 = bt326.1 then ((laws_sameInts.f k bt320.2.1 bt326.2.1).bind fun t332 => (laws_FnGapsClose.j0 k bt312.2.2 bt320.2.2 (!t332) bt312.1 bt312.2.1 bt320.1 bt320.2.1)) else (laws_FnGapsClose.j0 k bt312.2.2 bt320.2.2 true bt312.1 bt312.2.1 bt320.1 bt320.2.1))))))) = some true := h
 clear h
 replace H := sqj H
 rcases H with ⟨c2, H⟩ | ⟨c2, H⟩
 ·have c2b0 : decide (1048576 < (l0.length : Int)) = true := decide_eq_true c2
  have c2b1 : decide (1048576 < l0.length) = true := decide_eq_true (by omega)
  clear c2
  clear H
  go_enter Try.func4, Try.ntmps4
  go_wp2
  go_ret
  exact sqe HB
 have c2b0 : decide (1048576 < (l0.length : Int)) = false := decide_eq_false c2
 have c2b1 : decide (1048576 < l0.length) = false := decide_eq_false (by omega)
 clear c2
 replace H := sqbi H
 obtain ⟨⟨t312, t313, t316⟩, A3, H⟩ := H
 replace H : ((impl_GapsClose.f k t312 t313).bind fun bt320 => ((spec_GapsClose.f k t312 t313).bind fun bt326 => (if (bt320.2.2 != bt326.2.2) = true then (laws_FnGapsClose.j0 k t316 bt320.2.2 true t312 t313 bt320.1 bt320.2.1) else (if bt320.1 = bt326.1 then ((laws_sameInts.f k bt320.2.1 bt326.2.1).bind fun t332 => (laws_FnGapsClose.j0 k t316 bt320.2.2 (!t332) t312 t313 bt320.1 bt320.2.1)) else (laws_FnGapsClose.j0 k t316 bt320.2.2 true t312 t313 bt320.1 bt320.2.1))))) = some true := H
 replace H := sqbi H
 obtain ⟨⟨t320, t321, t324⟩, A4, H⟩ := H
 replace H : ((spec_GapsClose.f k t312 t313).bind fun bt326 => (if (t324 != bt326.2.2) = true then (laws_FnGapsClose.j0 k t316 t324 true t312 t313 t320 t321) else (if t320 = bt326.1 then ((laws_sameInts.f k t321 bt326.2.1).bind fun t332 => (laws_FnGapsClose.j0 k t316 t324 (!t332) t312 t313 t320 t321)) else (laws_FnGapsClose.j0 k t316 t324 true t312 t313 t320 t321)))) = some true := H
 replace H := sqbi H
 obtain ⟨⟨t326, t327, t330⟩, A5, H⟩ := H
 replace H : (if (t324 != t330) = true then (laws_FnGapsClose.j0 k t316 t324 true t312 t313 t320 t321) else (if t320 = t326 then ((laws_sameInts.f k t321 t327).bind fun t332 => (laws_FnGapsClose.j0 k t316 t324 (!t332) t312 t313 t320 t321)) else (laws_FnGapsClose.j0 k t316 t324 true t312 t313 t320 t321))) = some true := H
 have HC6 := Aside0.mk H
 clear H
 go_enter Try.func4, Try.ntmps4
 go_upto_region 6 with (first | ((with_reducible refine gate_callee (f := 24) rfl ?_); refine sqL (some 17) Try.func24 #[.slice A0 l0.length c0] ?_; (with_reducible refine (spec_DrawGapsHas.calls k _ _ l0 t312 t313 t316 _ ?side1 ?side2 A3.out).mono ?_); (case side1 => exact sqC HR0.out); (case side2 => exact HC0.out); rintro e w7 ⟨v314, v317, rfl, ho0, ho1, hb⟩; refine ⟨_, rfl, ?_⟩; have HO315 := Aside0.mk (Kd.R_lower ho0 (below_size (sqB HB))); have HO318 := Aside0.mk (Kd.R_lower ho1 (below_size (sqB HB))); replace HB := sqs HB hb; (try clear hb); (try clear hb2); (try clear hk); (try clear hi); (try clear ho0); (try clear ho1)) | ((with_reducible refine gate_dst (N := 3) rfl ?_); (try (refine gate_guard (by rfl) ?_; dsimp only)); refine sqx 3 #[.int .i64 0, .slice none 0 0] 41 ?_; intro gb319 hg w8 hbox hb; have n0_ := Aside0.mk (Kd.R_below (sqy HO315.out) hb); have n1_ := Aside0.mk (Kd.R_below (sqy HO318.out) hb); have n2_ := sqs HB hb; have n3_ := Aside0.mk (hbox); have n4_ := sqg HB hg; have n5_ := sqg HB hg; clear HO315; clear HO318; clear HB; have HO315 := n0_; have HO318 := n1_; have HB := n2_; have BK319 := n3_; have GW319 := n4_; have GE319 := n5_; clear n0_ n1_ n2_ n3_ n4_ n5_; clear hb hbox hg; obtain ⟨hcz9_0, hcz9_1, hfz9_0, hfz9_1⟩ := sqc2 BK319; obtain ⟨Ao10, co10, eo10⟩ := Kd.R_slice HO315.out; subst eo10) | ((with_reducible refine gate_callee (f := 25) rfl ?_); refine sqL (some 22) Try.func25 #[.agg #[.int .i64 t312, .slice Ao10 t313.length co10]] ?_; (with_reducible refine (impl_GapsClose.calls k t312 _ _ t313 t320 t321 t324 _ ?side1 ?side2 A4.out).mono ?_); (case side1 => refine (Kd.R_reads' (e := 3) (base := w.heap.size) (ok := fun k_ => some k_ ≠ (v317 : Value).ownBlock) (n := t313.length) (c := co10) ?_).2.2; exact (by (with_reducible repeat (first | apply Kd.R_alloc | apply Kd.R_drewN | apply Kd.R_drew)); exact (Kd.R_mono (Kd.R_far (p := ⟨gb319, 1, none⟩) (Kd.R_far (p := ⟨gb319, 0, none⟩) (Kd.R_types HO315.out BK319.out (by decide)) (fun _ hk => hk.2) (.int .i64 t312)) (fun _ hk => hk.2) (.slice Ao10 t313.length co10)) (fun _ h_ => h_.1)))); (case side2 => exact (Kd.R_reads' HO315.out).2.1); rintro e w11 ⟨v322, rfl, ho0, hb⟩; refine ⟨_, rfl, ?_⟩; have n0_ := Aside0.mk (Kd.R_elder' (by (with_reducible repeat (first | apply Kd.R_alloc | apply Kd.R_drewN | apply Kd.R_drew)); exact (Kd.R_mono (Kd.R_far (p := ⟨gb319, 1, none⟩) (Kd.R_far (p := ⟨gb319, 0, none⟩) (Kd.R_types HO315.out BK319.out (by decide)) (fun _ hk => hk.2) (.int .i64 t312)) (fun _ hk => hk.2) (.slice Ao10 t313.length co10)) (fun _ h_ => h_.1))) (Kd.R_base ho0) hb); have n1_ := Aside0.mk (Kd.R_elder' (by (with_reducible repeat (first | apply Kd.R_alloc | apply Kd.R_drewN | apply Kd.R_drew)); exact (Kd.R_mono (Kd.R_far (p := ⟨gb319, 1, none⟩) (Kd.R_far (p := ⟨gb319, 0, none⟩) (Kd.R_types HO318.out BK319.out (by decide)) (fun _ hk => hk.2) (.int .i64 t312)) (fun _ hk => hk.2) (.slice Ao10 t313.length co10)) (fun _ h_ => h_.1))) (Kd.R_base ho0) hb); have n2_ := Aside0.mk (Kd.R_lower (Kd.R_new' (Kd.R_new' ho0 (Kd.R_lt (by (with_reducible repeat (first | apply Kd.R_alloc | apply Kd.R_drewN | apply Kd.R_drew)); exact (Kd.R_mono (Kd.R_far (p := ⟨gb319, 1, none⟩) (Kd.R_far (p := ⟨gb319, 0, none⟩) (Kd.R_types HO315.out BK319.out (by decide)) (fun _ hk => hk.2) (.int .i64 t312)) (fun _ hk => hk.2) (.slice Ao10 t313.length co10)) (fun _ h_ => h_.1))))) (Kd.R_lt (by (with_reducible repeat (first | apply Kd.R_alloc | apply Kd.R_drewN | apply Kd.R_drew)); exact (Kd.R_mono (Kd.R_far (p := ⟨gb319, 1, none⟩) (Kd.R_far (p := ⟨gb319, 0, none⟩) (Kd.R_types HO318.out BK319.out (by decide)) (fun _ hk => hk.2) (.int .i64 t312)) (fun _ hk => hk.2) (.slice Ao10 t313.length co10)) (fun _ h_ => h_.1))))) (below_size (sqB HB))); have n3_ := Aside0.mk (blk_below (g := gb319) (o := .cells #[.int .i64 t312, .slice Ao10 t313.length co10] 41 (0, 0)) (by refine sqt ?_; refine blk_put (cs := #[.int .i64 t312, .slice none 0 0]) ?_ 1 _ rfl; refine sqt ?_; refine blk_put (cs := #[.int .i64 0, .slice none 0 0]) ?_ 0 _ rfl; refine sqt ?_; exact BK319.out) hb); have n4_ := sqs HB hb; clear HO315; clear HO318; clear BK319; clear HB; have HO315 := n0_; have HO318 := n1_; have HO323 := n2_; have BK319 := n3_; have HB := n4_; clear n0_ n1_ n2_ n3_ n4_; (try clear hb); (try clear hb2); (try clear hk); (try clear hi); (try clear ho0)) | ((with_reducible refine gate_dst (N := 5) rfl ?_); (try (refine gate_guard (by rfl) ?_; dsimp only)); refine sqx 5 #[.int .i64 0, .slice none 0 0] 41 ?_; intro gb325 hg w12 hbox hb; have n0_ := Aside0.mk (Kd.R_below (sqy HO315.out) hb); have n1_ := Aside0.mk (Kd.R_below (sqy HO318.out) hb); have n2_ := Aside0.mk (Kd.R_below (sqy HO323.out) hb); have n3_ := sqb BK319 hb; have n4_ := sqs HB hb; have n5_ := Aside0.mk (hbox); have n6_ := sqg HB hg; have n7_ := sqg HB hg; have n8_ := sqn BK319 hg; have n9_ := sqm BK319 hg; clear HO315; clear HO318; clear HO323; clear BK319; clear HB; have HO315 := n0_; have HO318 := n1_; have HO323 := n2_; have BK319 := n3_; have HB := n4_; have BK325 := n5_; have GW325 := n6_; have GE325 := n7_; have NB319_325 := n8_; have NB325_319 := n9_; clear n0_ n1_ n2_ n3_ n4_ n5_ n6_ n7_ n8_ n9_; clear hb hbox hg; have hnb13 := NB325_319.out; have hnc13 := NB319_325.out; obtain ⟨hcz14_0, hcz14_1, hfz14_0, hfz14_1⟩ := sqc2 BK325; obtain ⟨Ao15, co15, eo15⟩ := Kd.R_slice HO323.out; subst eo15; obtain ⟨hcz16_0, hcz16_1, hfz16_0, hfz16_1⟩ := sqc2 BK319) | ((with_reducible refine gate_callee (f := 26) rfl ?_); refine sqL (some 27) Try.func26 #[.agg #[.int .i64 t312, .slice Ao10 t313.length co10]] ?_; (with_reducible refine (spec_GapsClose.calls k t312 _ _ t313 t326 t327 t330 _ ?side1 ?side2 A5.out).mono ?_); (case side1 => refine (Kd.R_reads' (e := 3) (base := w.heap.size) (ok := fun k_ => (some k_ ≠ (v317 : Value).ownBlock ∧ some k_ ≠ (.slice Ao15 t321.length co15 : Value).ownBlock)) (n := t313.length) (c := co10) ?_).2.2; exact (by (with_reducible repeat (first | apply Kd.R_alloc | apply Kd.R_drewN | apply Kd.R_drew)); exact (Kd.R_mono (Kd.R_far (p := ⟨gb325, 1, none⟩) (Kd.R_far (p := ⟨gb325, 0, none⟩) (Kd.R_types HO315.out BK325.out (by decide)) (fun _ hk => hk.2) (.int .i64 t320)) (fun _ hk => hk.2) (.slice Ao15 t321.length co15)) (fun _ h_ => h_.1)))); (case side2 => exact (Kd.R_reads' HO315.out).2.1); rintro e w17 ⟨v328, rfl, ho0, hb⟩; refine ⟨_, rfl, ?_⟩; have n0_ := Aside0.mk (Kd.R_elder' (by (with_reducible repeat (first | apply Kd.R_alloc | apply Kd.R_drewN | apply Kd.R_drew)); exact (Kd.R_mono (Kd.R_far (p := ⟨gb325, 1, none⟩) (Kd.R_far (p := ⟨gb325, 0, none⟩) (Kd.R_types HO315.out BK325.out (by decide)) (fun _ hk => hk.2) (.int .i64 t320)) (fun _ hk => hk.2) (.slice Ao15 t321.length co15)) (fun _ h_ => h_.1))) (Kd.R_base ho0) hb); have n1_ := Aside0.mk (Kd.R_elder' (by (with_reducible repeat (first | apply Kd.R_alloc | apply Kd.R_drewN | apply Kd.R_drew)); exact (Kd.R_mono (Kd.R_far (p := ⟨gb325, 1, none⟩) (Kd.R_far (p := ⟨gb325, 0, none⟩) (Kd.R_types HO318.out BK325.out (by decide)) (fun _ hk => hk.2) (.int .i64 t320)) (fun _ hk => hk.2) (.slice Ao15 t321.length co15)) (fun _ h_ => h_.1))) (Kd.R_base ho0) hb); have n2_ := Aside0.mk (Kd.R_elder' (by (with_reducible repeat (first | apply Kd.R_alloc | apply Kd.R_drewN | apply Kd.R_drew)); exact (Kd.R_mono (Kd.R_far (p := ⟨gb325, 1, none⟩) (Kd.R_far (p := ⟨gb325, 0, none⟩) (Kd.R_types HO323.out BK325.out (by decide)) (fun _ hk => hk.2) (.int .i64 t320)) (fun _ hk => hk.2) (.slice Ao15 t321.length co15)) (fun _ h_ => h_.1))) (Kd.R_base ho0) hb); have n3_ := Aside0.mk (Kd.R_lower (Kd.R_new' (Kd.R_new' (Kd.R_new' ho0 (Kd.R_lt (by (with_reducible repeat (first | apply Kd.R_alloc | apply Kd.R_drewN | apply Kd.R_drew)); exact (Kd.R_mono (Kd.R_far (p := ⟨gb325, 1, none⟩) (Kd.R_far (p := ⟨gb325, 0, none⟩) (Kd.R_types HO315.out BK325.out (by decide)) (fun _ hk => hk.2) (.int .i64 t320)) (fun _ hk => hk.2) (.slice Ao15 t321.length co15)) (fun _ h_ => h_.1))))) (Kd.R_lt (by (with_reducible repeat (first | apply Kd.R_alloc | apply Kd.R_drewN | apply Kd.R_drew)); exact (Kd.R_mono (Kd.R_far (p := ⟨gb325, 1, none⟩) (Kd.R_far (p := ⟨gb325, 0, none⟩) (Kd.R_types HO318.out BK325.out (by decide)) (fun _ hk => hk.2) (.int .i64 t320)) (fun _ hk => hk.2) (.slice Ao15 t321.length co15)) (fun _ h_ => h_.1))))) (Kd.R_lt (by (with_reducible repeat (first | apply Kd.R_alloc | apply Kd.R_drewN | apply Kd.R_drew)); exact (Kd.R_mono (Kd.R_far (p := ⟨gb325, 1, none⟩) (Kd.R_far (p := ⟨gb325, 0, none⟩) (Kd.R_types HO323.out BK325.out (by decide)) (fun _ hk => hk.2) (.int .i64 t320)) (fun _ hk => hk.2) (.slice Ao15 t321.length co15)) (fun _ h_ => h_.1))))) (below_size (sqB HB))); have n4_ := Aside0.mk (blk_below (g := gb319) (o := .cells #[.int .i64 t312, .slice Ao10 t313.length co10] 41 (0, 0)) (by refine sqt ?_; refine blk_far ?_ NB319_325.out _; refine sqt ?_; refine blk_far ?_ NB319_325.out _; refine sqt ?_; exact BK319.out) hb); have n5_ := Aside0.mk (blk_below (g := gb325) (o := .cells #[.int .i64 t320, .slice Ao15 t321.length co15] 41 (0, 0)) (by refine sqt ?_; refine blk_put (cs := #[.int .i64 t320, .slice none 0 0]) ?_ 1 _ rfl; refine sqt ?_; refine blk_put (cs := #[.int .i64 0, .slice none 0 0]) ?_ 0 _ rfl; refine sqt ?_; exact BK325.out) hb); have n6_ := sqs HB hb; clear HO315; clear HO318; clear HO323; clear BK319; clear BK325; clear HB; have HO315 := n0_; have HO318 := n1_; have HO323 := n2_; have HO329 := n3_; have BK319 := n4_; have BK325 := n5_; have HB := n6_; clear n0_ n1_ n2_ n3_ n4_ n5_ n6_; (try clear hb); (try clear hb2); (try clear hk); (try clear hi); (try clear ho0)) | ((with_reducible refine gate_dst (N := 7) rfl ?_); (try (refine gate_guard (by rfl) ?_; dsimp only)); refine sqx 7 #[.int .i64 0, .slice none 0 0] 41 ?_; intro gb331 hg w18 hbox hb; have n0_ := Aside0.mk (Kd.R_below (sqy HO315.out) hb); have n1_ := Aside0.mk (Kd.R_below (sqy HO318.out) hb); have n2_ := Aside0.mk (Kd.R_below (sqy HO323.out) hb); have n3_ := Aside0.mk (Kd.R_below (sqy HO329.out) hb); have n4_ := sqb BK319 hb; have n5_ := sqb BK325 hb; have n6_ := sqs HB hb; have n7_ := Aside0.mk (hbox); have n8_ := sqg HB hg; have n9_ := sqg HB hg; have n10_ := sqn BK319 hg; have n11_ := sqm BK319 hg; have n12_ := sqn BK325 hg; have n13_ := sqm BK325 hg; clear HO315; clear HO318; clear HO323; clear HO329; clear BK319; clear BK325; clear HB; have HO315 := n0_; have HO318 := n1_; have HO323 := n2_; have HO329 := n3_; have BK319 := n4_; have BK325 := n5_; have HB := n6_; have BK331 := n7_; have GW331 := n8_; have GE331 := n9_; have NB319_331 := n10_; have NB331_319 := n11_; have NB325_331 := n12_; have NB331_325 := n13_; clear n0_ n1_ n2_ n3_ n4_ n5_ n6_ n7_ n8_ n9_ n10_ n11_ n12_ n13_; clear hb hbox hg; have hnb19 := NB331_319.out; have hnc19 := NB319_331.out; have hnb20 := NB331_325.out; have hnc20 := NB325_331.out; obtain ⟨hcz21_0, hcz21_1, hfz21_0, hfz21_1⟩ := sqc2 BK331; obtain ⟨Ao22, co22, eo22⟩ := Kd.R_slice HO329.out; subst eo22))
 (try simp only [Act.put, List.setIfInBounds_toArray, List.set_cons_zero, List.set_cons_succ])
 go_cut [47] (fun v47 wc => ∃ (kq : Nat) (x47_5 : Bool), v47 = .bool x47_5 ∧ Aside0 (laws_FnGapsClose.j0 kq t316 t324 x47_5 t312 t313 t320 t321 = some true) ∧ Aside0 (kq ≤ k) ∧ Aside0 (Kd.R (Kd.int .i64) 3 wc w.heap.size (fun k_ => some k_ ≠ ((.slice Ao10 t313.length co10) : Value).ownBlock ∧ some k_ ≠ ((.slice Ao15 t321.length co15) : Value).ownBlock ∧ some k_ ≠ ((.slice Ao22 t327.length co22) : Value).ownBlock) v317 t316) ∧ Aside0 (Kd.R (Kd.int .i64) 3 wc w.heap.size (fun k_ => some k_ ≠ (v317 : Value).ownBlock ∧ some k_ ≠ ((.slice Ao15 t321.length co15) : Value).ownBlock ∧ some k_ ≠ ((.slice Ao22 t327.length co22) : Value).ownBlock) (.slice Ao10 t313.length co10) t313) ∧ Aside0 (Kd.R (Kd.int .i64) 3 wc w.heap.size (fun k_ => some k_ ≠ (v317 : Value).ownBlock ∧ some k_ ≠ ((.slice Ao10 t313.length co10) : Value).ownBlock ∧ some k_ ≠ ((.slice Ao22 t327.length co22) : Value).ownBlock) (.slice Ao15 t321.length co15) t321) ∧ Aside0 (Kd.R (Kd.int .i64) 3 wc w.heap.size (fun k_ => some k_ ≠ (v317 : Value).ownBlock ∧ some k_ ≠ ((.slice Ao10 t313.length co10) : Value).ownBlock ∧ some k_ ≠ ((.slice Ao15 t321.length co15) : Value).ownBlock) (.slice Ao22 t327.length co22) t327) ∧ Aside0 (wc.heap[gb319]? = some (.cells #[.int .i64 t312, (.slice Ao10 t313.length co10)] 41 (0, 0))) ∧ Aside0 (wc.heap[gb325]? = some (.cells #[.int .i64 t320, (.slice Ao15 t321.length co15)] 41 (0, 0))) ∧ Aside0 (wc.heap[gb331]? = some (.cells #[.int .i64 t326, (.slice Ao22 t327.length co22)] 41 (0, 0))) ∧ Aside0 (Below w.heap.size w wc))
 case first =>
  as_aux_lemma =>
  have H := HC6.out
  clear HC6
  replace H := sqj H
  rcases H with ⟨c23, H⟩ | ⟨c23, H⟩
  ·have c23b0 : (t324 != t330) = true := c23
   (try (have c23b1 : decide (t324 = t330) = false := by simpa using c23))
   (try (have c23b2 : (t324 == t330) = false := by simpa using c23))
   (try (have c23b3 : ¬ (t324 = t330) := by simpa using c23))
   clear c23
   (first | rw [c23b0] | (simp only [i64_w, i32_w]; rw [c23b0]) | skip)
   have H' := Aside0.mk H
   clear H
   go_wp2
   go_meet
   case rel => exact ⟨_, (true), (by first | rfl | (simp; done) | (simp [*]; done)), H', ⟨by first | omega | exact Nat.le_refl _⟩, ⟨by (with_reducible repeat (first | apply Kd.R_alloc | apply Kd.R_drewN | apply Kd.R_drew)); exact Kd.R_mono (Kd.R_far (p := ⟨gb331, 1, none⟩) (Kd.R_far (p := ⟨gb331, 0, none⟩) (Kd.R_types HO318.out BK331.out (by decide)) (fun _ hk => hk.2) (.int .i64 t326)) (fun _ hk => hk.2) (.slice Ao22 t327.length co22)) (fun _ hk => ⟨hk.1.1.1, ⟨hk.1.1.2, hk.1.2⟩⟩)⟩, ⟨by (with_reducible repeat (first | apply Kd.R_alloc | apply Kd.R_drewN | apply Kd.R_drew)); exact Kd.R_mono (Kd.R_far (p := ⟨gb331, 1, none⟩) (Kd.R_far (p := ⟨gb331, 0, none⟩) (Kd.R_types HO315.out BK331.out (by decide)) (fun _ hk => hk.2) (.int .i64 t326)) (fun _ hk => hk.2) (.slice Ao22 t327.length co22)) (fun _ hk => ⟨hk.1.1.1, ⟨hk.1.1.2, hk.1.2⟩⟩)⟩, ⟨by (with_reducible repeat (first | apply Kd.R_alloc | apply Kd.R_drewN | apply Kd.R_drew)); exact Kd.R_mono (Kd.R_far (p := ⟨gb331, 1, none⟩) (Kd.R_far (p := ⟨gb331, 0, none⟩) (Kd.R_types HO323.out BK331.out (by decide)) (fun _ hk => hk.2) (.int .i64 t326)) (fun _ hk => hk.2) (.slice Ao22 t327.length co22)) (fun _ hk => ⟨hk.1.1.2, ⟨hk.1.1.1.2, hk.1.2⟩⟩)⟩, ⟨by (with_reducible repeat (first | apply Kd.R_alloc | apply Kd.R_drewN | apply Kd.R_drew)); exact Kd.R_mono (Kd.R_far (p := ⟨gb331, 1, none⟩) (Kd.R_far (p := ⟨gb331, 0, none⟩) (Kd.R_types HO329.out BK331.out (by decide)) (fun _ hk => hk.2) (.int .i64 t326)) (fun _ hk => hk.2) (.slice Ao22 t327.length co22)) (fun _ hk => ⟨hk.1.1.2, ⟨hk.1.1.1.2, hk.1.2⟩⟩)⟩, ⟨by refine sqt ?_; refine blk_far ?_ NB319_331.out _; refine sqt ?_; refine blk_far ?_ NB319_331.out _; refine sqt ?_; exact BK319.out⟩, ⟨by refine sqt ?_; refine blk_far ?_ NB325_331.out _; refine sqt ?_; refine blk_far ?_ NB325_331.out _; refine sqt ?_; exact BK325.out⟩, ⟨by refine sqt ?_; refine blk_put (cs := #[.int .i64 t326, .slice none 0 0]) ?_ 1 _ rfl; refine sqt ?_; refine blk_put (cs := #[.int .i64 0, .slice none 0 0]) ?_ 0 _ rfl; refine sqt ?_; exact BK331.out⟩, sqh HB⟩
  have c23b0 : (t324 != t330) = false := by simpa using c23
  (try (have c23b1 : decide (t324 = t330) = true := by simpa using c23))
  (try (have c23b2 : (t324 == t330) = true := by simpa using c23))
  clear c23
  (first | rw [c23b0] | (simp only [i64_w, i32_w]; rw [c23b0]) | skip)
  replace H := sqi H
  rcases H with ⟨c24, H⟩ | ⟨c24, H⟩
  ·have c24b0 : (t320 == t326) = false := beq_eq_false_iff_ne.mpr c24
   have c24b1 : (t320 != t326) = true := bne_iff_ne.mpr c24
   have H' := Aside0.mk H
   clear H
   have hnb31 := NB325_319.out
   have hnc31 := NB319_325.out
   have hnb32 := NB325_331.out
   have hnc32 := NB331_325.out
   obtain ⟨hcz33_0, hcz33_1, hfz33_0, hfz33_1⟩ := sqc2 BK325
   have hnb34 := NB331_319.out
   have hnc34 := NB319_331.out
   obtain ⟨hcz35_0, hcz35_1, hfz35_0, hfz35_1⟩ := sqc2 BK331
   go_wp2
   go_meet
   case rel => exact ⟨_, (true), (by first | rfl | (simp; done) | (simp [*]; done)), H', ⟨by first | omega | exact Nat.le_refl _⟩, ⟨by (with_reducible repeat (first | apply Kd.R_alloc | apply Kd.R_drewN | apply Kd.R_drew)); exact Kd.R_mono (Kd.R_far (p := ⟨gb331, 1, none⟩) (Kd.R_far (p := ⟨gb331, 0, none⟩) (Kd.R_types HO318.out BK331.out (by decide)) (fun _ hk => hk.2) (.int .i64 t326)) (fun _ hk => hk.2) (.slice Ao22 t327.length co22)) (fun _ hk => ⟨hk.1.1.1, ⟨hk.1.1.2, hk.1.2⟩⟩)⟩, ⟨by (with_reducible repeat (first | apply Kd.R_alloc | apply Kd.R_drewN | apply Kd.R_drew)); exact Kd.R_mono (Kd.R_far (p := ⟨gb331, 1, none⟩) (Kd.R_far (p := ⟨gb331, 0, none⟩) (Kd.R_types HO315.out BK331.out (by decide)) (fun _ hk => hk.2) (.int .i64 t326)) (fun _ hk => hk.2) (.slice Ao22 t327.length co22)) (fun _ hk => ⟨hk.1.1.1, ⟨hk.1.1.2, hk.1.2⟩⟩)⟩, ⟨by (with_reducible repeat (first | apply Kd.R_alloc | apply Kd.R_drewN | apply Kd.R_drew)); exact Kd.R_mono (Kd.R_far (p := ⟨gb331, 1, none⟩) (Kd.R_far (p := ⟨gb331, 0, none⟩) (Kd.R_types HO323.out BK331.out (by decide)) (fun _ hk => hk.2) (.int .i64 t326)) (fun _ hk => hk.2) (.slice Ao22 t327.length co22)) (fun _ hk => ⟨hk.1.1.2, ⟨hk.1.1.1.2, hk.1.2⟩⟩)⟩, ⟨by (with_reducible repeat (first | apply Kd.R_alloc | apply Kd.R_drewN | apply Kd.R_drew)); exact Kd.R_mono (Kd.R_far (p := ⟨gb331, 1, none⟩) (Kd.R_far (p := ⟨gb331, 0, none⟩) (Kd.R_types HO329.out BK331.out (by decide)) (fun _ hk => hk.2) (.int .i64 t326)) (fun _ hk => hk.2) (.slice Ao22 t327.length co22)) (fun _ hk => ⟨hk.1.1.2, ⟨hk.1.1.1.2, hk.1.2⟩⟩)⟩, ⟨by refine sqt ?_; refine blk_far ?_ NB319_331.out _; refine sqt ?_; refine blk_far ?_ NB319_331.out _; refine sqt ?_; exact BK319.out⟩, ⟨by refine sqt ?_; refine blk_far ?_ NB325_331.out _; refine sqt ?_; refine blk_far ?_ NB325_331.out _; refine sqt ?_; exact BK325.out⟩, ⟨by refine sqt ?_; refine blk_put (cs := #[.int .i64 t326, .slice none 0 0]) ?_ 1 _ rfl; refine sqt ?_; refine blk_put (cs := #[.int .i64 0, .slice none 0 0]) ?_ 0 _ rfl; refine sqt ?_; exact BK331.out⟩, sqh HB⟩
  have c24b0 : (t320 == t326) = true := beq_iff_eq.mpr c24
  have c24b1 : (t320 != t326) = false := bne_eq_false_iff_eq.mpr c24
  clear c24
  replace H := sqbi H
  obtain ⟨t332, A25, H⟩ := H
  replace H : (laws_FnGapsClose.j0 k t316 t324 (!t332) t312 t313 t320 t321) = some true := H
  have H' := Aside0.mk H
  clear H
  have hnb26 := NB325_319.out
  have hnc26 := NB319_325.out
  have hnb27 := NB325_331.out
  have hnc27 := NB331_325.out
  obtain ⟨hcz28_0, hcz28_1, hfz28_0, hfz28_1⟩ := sqc2 BK325
  have hnb29 := NB331_319.out
  have hnc29 := NB319_331.out
  obtain ⟨hcz30_0, hcz30_1, hfz30_0, hfz30_1⟩ := sqc2 BK331
  go_wp2_with (first | (go_at_call 27; (with_reducible refine (laws_sameInts.calls k _ _ t321 _ _ t327 t332 _ ?side1 ?side2 ?side3 ?side4 A25.out).mono ?_); (case side1 => refine (Kd.R_reads' (e := 3) (base := w.heap.size) (ok := fun k_ => (((True ∧ some k_ ≠ (.slice Ao10 t313.length co10 : Value).ownBlock) ∧ some k_ ≠ (v317 : Value).ownBlock) ∧ some k_ ≠ (.slice Ao22 t327.length co22 : Value).ownBlock)) (n := t321.length) (c := co15) ?_).2.2; exact (by (with_reducible repeat (first | apply Kd.R_alloc | apply Kd.R_drewN | apply Kd.R_drew)); exact (Kd.R_mono (Kd.R_far (p := ⟨gb331, 1, none⟩) (Kd.R_far (p := ⟨gb331, 0, none⟩) (Kd.R_types HO323.out BK331.out (by decide)) (fun _ hk => hk.2) (.int .i64 t326)) (fun _ hk => hk.2) (.slice Ao22 t327.length co22)) (fun _ h_ => h_.1)))); (case side2 => exact (Kd.R_reads' HO323.out).2.1); (case side3 => refine (Kd.R_reads' (e := 3) (base := w.heap.size) (ok := fun k_ => (((True ∧ some k_ ≠ (.slice Ao10 t313.length co10 : Value).ownBlock) ∧ some k_ ≠ (v317 : Value).ownBlock) ∧ some k_ ≠ (.slice Ao15 t321.length co15 : Value).ownBlock)) (n := t327.length) (c := co22) ?_).2.2; exact (by (with_reducible repeat (first | apply Kd.R_alloc | apply Kd.R_drewN | apply Kd.R_drew)); exact (Kd.R_mono (Kd.R_far (p := ⟨gb331, 1, none⟩) (Kd.R_far (p := ⟨gb331, 0, none⟩) (Kd.R_types HO329.out BK331.out (by decide)) (fun _ hk => hk.2) (.int .i64 t326)) (fun _ hk => hk.2) (.slice Ao22 t327.length co22)) (fun _ h_ => h_.1)))); (case side4 => exact (Kd.R_reads' HO329.out).2.1); rintro e w' ⟨rfl, ⟨nd, rfl⟩⟩))
  go_meet
  case rel => exact ⟨_, (!t332), (by first | rfl | (simp; done) | (simp [*]; done)), H', ⟨by first | omega | exact Nat.le_refl _⟩, ⟨by (with_reducible repeat (first | apply Kd.R_alloc | apply Kd.R_drewN | apply Kd.R_drew)); exact Kd.R_mono (Kd.R_far (p := ⟨gb331, 1, none⟩) (Kd.R_far (p := ⟨gb331, 0, none⟩) (Kd.R_types HO318.out BK331.out (by decide)) (fun _ hk => hk.2) (.int .i64 t326)) (fun _ hk => hk.2) (.slice Ao22 t327.length co22)) (fun _ hk => ⟨hk.1.1.1, ⟨hk.1.1.2, hk.1.2⟩⟩)⟩, ⟨by (with_reducible repeat (first | apply Kd.R_alloc | apply Kd.R_drewN | apply Kd.R_drew)); exact Kd.R_mono (Kd.R_far (p := ⟨gb331, 1, none⟩) (Kd.R_far (p := ⟨gb331, 0, none⟩) (Kd.R_types HO315.out BK331.out (by decide)) (fun _ hk => hk.2) (.int .i64 t326)) (fun _ hk => hk.2) (.slice Ao22 t327.length co22)) (fun _ hk => ⟨hk.1.1.1, ⟨hk.1.1.2, hk.1.2⟩⟩)⟩, ⟨by (with_reducible repeat (first | apply Kd.R_alloc | apply Kd.R_drewN | apply Kd.R_drew)); exact Kd.R_mono (Kd.R_far (p := ⟨gb331, 1, none⟩) (Kd.R_far (p := ⟨gb331, 0, none⟩) (Kd.R_types HO323.out BK331.out (by decide)) (fun _ hk => hk.2) (.int .i64 t326)) (fun _ hk => hk.2) (.slice Ao22 t327.length co22)) (fun _ hk => ⟨hk.1.1.2, ⟨hk.1.1.1.2, hk.1.2⟩⟩)⟩, ⟨by (with_reducible repeat (first | apply Kd.R_alloc | apply Kd.R_drewN | apply Kd.R_drew)); exact Kd.R_mono (Kd.R_far (p := ⟨gb331, 1, none⟩) (Kd.R_far (p := ⟨gb331, 0, none⟩) (Kd.R_types HO329.out BK331.out (by decide)) (fun _ hk => hk.2) (.int .i64 t326)) (fun _ hk => hk.2) (.slice Ao22 t327.length co22)) (fun _ hk => ⟨hk.1.1.2, ⟨hk.1.1.1.2, hk.1.2⟩⟩)⟩, ⟨by refine sqt ?_; refine blk_far ?_ NB319_331.out _; refine sqt ?_; refine blk_far ?_ NB319_331.out _; refine sqt ?_; exact BK319.out⟩, ⟨by refine sqt ?_; refine blk_far ?_ NB325_331.out _; refine sqt ?_; refine blk_far ?_ NB325_331.out _; refine sqt ?_; exact BK325.out⟩, ⟨by refine sqt ?_; refine blk_put (cs := #[.int .i64 t326, .slice none 0 0]) ?_ 1 _ rfl; refine sqt ?_; refine blk_put (cs := #[.int .i64 0, .slice none 0 0]) ?_ 0 _ rfl; refine sqt ?_; exact BK331.out⟩, sqh HB⟩
 case rest =>
  as_aux_lemma =>
  clear HC6
  obtain ⟨kq, x47_5, rfl, HA, HJ5, HO_4, HO_320001, HO_326001, HO_332001, BK319, BK325, BK331, HB⟩ := hcut
  cases kq with
  | zero => exact absurd HA.out (by simp [laws_FnGapsClose.j0])
  | succ kj5 =>
   have H := HA.out
   clear HA
   simp only [laws_FnGapsClose.j0] at H
   by_cases c36 : x47_5 = true
   ·subst c36
    have H1 : (some false) = some true := by rw [if_pos rfl] at H; exact H
    clear H
    have H := H1
    clear H1
    exact absurd (Option.some.inj H) (by decide)
   replace c36 := Bool.eq_false_iff.mpr c36
   subst c36
   have H1 : ((impl_GapsHas.f kj5 t312 t313 t316).bind fun t333 => ((spec_GapsHas.f kj5 t312 t313 t316).bind fun t334 => (if (t333 != t334) = true then (some false) else (if t324 = true then ((impl_GapsHas.f kj5 t320 t321 t316).bind fun t335 => (if (t335 != t333) = true then (laws_FnGapsClose.j1 kj5 true t320 t321) else ((impl_GapsIn.f kj5 t320 t321 t312 t313).bind fun t336 => (if t336 = true then ((impl_GapsOk.f kj5 t320 t321).bind fun t337 => (laws_FnGapsClose.j1 kj5 (!t337) t320 t321)) else (laws_FnGapsClose.j1 kj5 true t320 t321))))) else (if t333 = true then (some false) else (some ((t321.length : Int) == 0))))))) = some true := by rw [if_neg (show ¬ (false = true) by decide)] at H; exact H
   clear H
   have H := H1
   clear H1
   replace H := sqbi H
   obtain ⟨t333, A37, H⟩ := H
   replace H : ((spec_GapsHas.f kj5 t312 t313 t316).bind fun t334 => (if (t333 != t334) = true then (some false) else (if t324 = true then ((impl_GapsHas.f kj5 t320 t321 t316).bind fun t335 => (if (t335 != t333) = true then (laws_FnGapsClose.j1 kj5 true t320 t321) else ((impl_GapsIn.f kj5 t320 t321 t312 t313).bind fun t336 => (if t336 = true then ((impl_GapsOk.f kj5 t320 t321).bind fun t337 => (laws_FnGapsClose.j1 kj5 (!t337) t320 t321)) else (laws_FnGapsClose.j1 kj5 true t320 t321))))) else (if t333 = true then (some false) else (some ((t321.length : Int) == 0)))))) = some true := H
   replace H := sqbi H
   obtain ⟨t334, A38, H⟩ := H
   replace H : (if (t333 != t334) = true then (some false) else (if t324 = true then ((impl_GapsHas.f kj5 t320 t321 t316).bind fun t335 => (if (t335 != t333) = true then (laws_FnGapsClose.j1 kj5 true t320 t321) else ((impl_GapsIn.f kj5 t320 t321 t312 t313).bind fun t336 => (if t336 = true then ((impl_GapsOk.f kj5 t320 t321).bind fun t337 => (laws_FnGapsClose.j1 kj5 (!t337) t320 t321)) else (laws_FnGapsClose.j1 kj5 true t320 t321))))) else (if t333 = true then (some false) else (some ((t321.length : Int) == 0))))) = some true := H
   replace H := sqj H
   rcases H with ⟨c39, H⟩ | ⟨c39, H⟩
   ·have c39b0 : (t333 != t334) = true := c39
    (try (have c39b1 : decide (t333 = t334) = false := by simpa using c39))
    (try (have c39b2 : (t333 == t334) = false := by simpa using c39))
    (try (have c39b3 : ¬ (t333 = t334) := by simpa using c39))
    clear c39
    exact absurd (Option.some.inj H) (by decide)
   have c39b0 : (t333 != t334) = false := by simpa using c39
   (try (have c39b1 : decide (t333 = t334) = true := by simpa using c39))
   (try (have c39b2 : (t333 == t334) = true := by simpa using c39))
   clear c39
   rcases sqI (t324 = true) with c47 | c47
   ·replace c47 := Bool.eq_false_iff.mpr c47
    subst c47
    have H1 : (if t333 = true then (some false) else (some ((t321.length : Int) == 0))) = some true := by rw [if_neg (show ¬ (false = true) by decide)] at H; exact H
    clear H
    have H := H1
    clear H1
    by_cases c108 : t333 = true
    ·subst c108
     have H1 : (some false) = some true := by rw [if_pos rfl] at H; exact H
     clear H
     have H := H1
     clear H1
     exact absurd (Option.some.inj H) (by decide)
    replace c108 := Bool.eq_false_iff.mpr c108
    subst c108
    have H1 : (some ((t321.length : Int) == 0)) = some true := by rw [if_neg (show ¬ (false = true) by decide)] at H; exact H
    clear H
    have H := H1
    clear H1
    (first | (obtain rfl := Option.some.inj H) | (have ht_ : (_ == _) = true := Option.some.inj H; clear H) | clear H)
    have hnb116 := NB319_325.out
    have hnc116 := NB325_319.out
    have hnb117 := NB319_331.out
    have hnc117 := NB331_319.out
    obtain ⟨hcz118_0, hcz118_1, hfz118_0, hfz118_1⟩ := sqc2 BK319
    obtain ⟨Ao119, co119, eo119⟩ := Kd.R_slice HO_4.out
    subst eo119
    go_wp2_with (first | ((with_reducible refine gate_callee (f := 28) rfl ?_); refine sqL (some 50) Try.func28 #[.agg #[.int .i64 t312, .slice Ao10 t313.length co10], .slice Ao119 t316.length co119] ?_; (with_reducible refine (impl_GapsHas.calls kj5 t312 _ _ t313 _ _ t316 false _ ?side1 ?side2 ?side3 ?side4 A37.out).mono ?_); (case side1 => exact sqC (Kd.R_reads' HO_320001.out).2.2); (case side2 => exact (Kd.R_reads' HO_320001.out).2.1); (case side3 => exact sqC (Kd.R_reads' HO_4.out).2.2); (case side4 => exact (Kd.R_reads' HO_4.out).2.1); rintro e w120 ⟨rfl, hb⟩; refine ⟨_, rfl, ?_⟩; have n0_ := Aside0.mk (Kd.R_below (sqy HO_4.out) hb); have n1_ := Aside0.mk (Kd.R_below (sqy HO_320001.out) hb); have n2_ := Aside0.mk (Kd.R_below (sqy HO_326001.out) hb); have n3_ := Aside0.mk (Kd.R_below (sqy HO_332001.out) hb); have n4_ := sqb BK319 hb; have n5_ := sqb BK325 hb; have n6_ := sqb BK331 hb; have n7_ := sqs HB hb; clear HO_4; clear HO_320001; clear HO_326001; clear HO_332001; clear BK319; clear BK325; clear BK331; clear HB; have HO_4 := n0_; have HO_320001 := n1_; have HO_326001 := n2_; have HO_332001 := n3_; have BK319 := n4_; have BK325 := n5_; have BK331 := n6_; have HB := n7_; clear n0_ n1_ n2_ n3_ n4_ n5_ n6_ n7_; (try clear hb); obtain ⟨hcz121_0, hcz121_1, hfz121_0, hfz121_1⟩ := sqc2 BK319) | ((with_reducible refine gate_callee (f := 29) rfl ?_); refine sqL (some 54) Try.func29 #[.agg #[.int .i64 t312, .slice Ao10 t313.length co10], .slice Ao119 t316.length co119] ?_; (with_reducible refine (spec_GapsHas.calls kj5 t312 _ _ t313 _ _ t316 t334 _ ?side1 ?side2 ?side3 ?side4 A38.out).mono ?_); (case side1 => exact sqC (Kd.R_reads' HO_320001.out).2.2); (case side2 => exact (Kd.R_reads' HO_320001.out).2.1); (case side3 => exact sqC (Kd.R_reads' HO_4.out).2.2); (case side4 => exact (Kd.R_reads' HO_4.out).2.1); rintro e w122 ⟨rfl, hb⟩; refine ⟨_, rfl, ?_⟩; have n0_ := Aside0.mk (Kd.R_below (sqy HO_4.out) hb); have n1_ := Aside0.mk (Kd.R_below (sqy HO_320001.out) hb); have n2_ := Aside0.mk (Kd.R_below (sqy HO_326001.out) hb); have n3_ := Aside0.mk (Kd.R_below (sqy HO_332001.out) hb); have n4_ := sqb BK319 hb; have n5_ := sqb BK325 hb; have n6_ := sqb BK331 hb; have n7_ := sqs HB hb; clear HO_4; clear HO_320001; clear HO_326001; clear HO_332001; clear BK319; clear BK325; clear BK331; clear HB; have HO_4 := n0_; have HO_320001 := n1_; have HO_326001 := n2_; have HO_332001 := n3_; have BK319 := n4_; have BK325 := n5_; have BK331 := n6_; have HB := n7_; clear n0_ n1_ n2_ n3_ n4_ n5_ n6_ n7_; (try clear hb); have hnb123 := NB325_331.out; have hnc123 := NB331_325.out; obtain ⟨hcz124_0, hcz124_1, hfz124_0, hfz124_1⟩ := sqc2 BK325))
    go_ret
    exact sqe HB
   subst c47
   have H1 : ((impl_GapsHas.f kj5 t320 t321 t316).bind fun t335 => (if (t335 != t333) = true then (laws_FnGapsClose.j1 kj5 true t320 t321) else ((impl_GapsIn.f kj5 t320 t321 t312 t313).bind fun t336 => (if t336 = true then ((impl_GapsOk.f kj5 t320 t321).bind fun t337 => (laws_FnGapsClose.j1 kj5 (!t337) t320 t321)) else (laws_FnGapsClose.j1 kj5 true t320 t321))))) = some true := by rw [if_pos rfl] at H; exact H
   clear H
   have H := H1
   clear H1
   have HC48 := Aside0.mk H
   clear H
   have hnb49 := NB319_325.out
   have hnc49 := NB325_319.out
   have hnb50 := NB319_331.out
   have hnc50 := NB331_319.out
   obtain ⟨hcz51_0, hcz51_1, hfz51_0, hfz51_1⟩ := sqc2 BK319
   obtain ⟨Ao52, co52, eo52⟩ := Kd.R_slice HO_4.out
   subst eo52
   go_upto_region 13 with (first | ((with_reducible refine gate_callee (f := 28) rfl ?_); refine sqL (some 50) Try.func28 #[.agg #[.int .i64 t312, .slice Ao10 t313.length co10], .slice Ao52 t316.length co52] ?_; (with_reducible refine (impl_GapsHas.calls kj5 t312 _ _ t313 _ _ t316 t333 _ ?side1 ?side2 ?side3 ?side4 A37.out).mono ?_); (case side1 => exact sqC (Kd.R_reads' HO_320001.out).2.2); (case side2 => exact (Kd.R_reads' HO_320001.out).2.1); (case side3 => exact sqC (Kd.R_reads' HO_4.out).2.2); (case side4 => exact (Kd.R_reads' HO_4.out).2.1); rintro e w53 ⟨rfl, hb⟩; refine ⟨_, rfl, ?_⟩; have n0_ := Aside0.mk (Kd.R_below (sqy HO_4.out) hb); have n1_ := Aside0.mk (Kd.R_below (sqy HO_320001.out) hb); have n2_ := Aside0.mk (Kd.R_below (sqy HO_326001.out) hb); have n3_ := Aside0.mk (Kd.R_below (sqy HO_332001.out) hb); have n4_ := sqb BK319 hb; have n5_ := sqb BK325 hb; have n6_ := sqb BK331 hb; have n7_ := sqs HB hb; clear HO_4; clear HO_320001; clear HO_326001; clear HO_332001; clear BK319; clear BK325; clear BK331; clear HB; have HO_4 := n0_; have HO_320001 := n1_; have HO_326001 := n2_; have HO_332001 := n3_; have BK319 := n4_; have BK325 := n5_; have BK331 := n6_; have HB := n7_; clear n0_ n1_ n2_ n3_ n4_ n5_ n6_ n7_; (try clear hb); obtain ⟨hcz54_0, hcz54_1, hfz54_0, hfz54_1⟩ := sqc2 BK319) | ((with_reducible refine gate_callee (f := 29) rfl ?_); refine sqL (some 54) Try.func29 #[.agg #[.int .i64 t312, .slice Ao10 t313.length co10], .slice Ao52 t316.length co52] ?_; (with_reducible refine (spec_GapsHas.calls kj5 t312 _ _ t313 _ _ t316 t334 _ ?side1 ?side2 ?side3 ?side4 A38.out).mono ?_); (case side1 => exact sqC (Kd.R_reads' HO_320001.out).2.2); (case side2 => exact (Kd.R_reads' HO_320001.out).2.1); (case side3 => exact sqC (Kd.R_reads' HO_4.out).2.2); (case side4 => exact (Kd.R_reads' HO_4.out).2.1); rintro e w55 ⟨rfl, hb⟩; refine ⟨_, rfl, ?_⟩; have n0_ := Aside0.mk (Kd.R_below (sqy HO_4.out) hb); have n1_ := Aside0.mk (Kd.R_below (sqy HO_320001.out) hb); have n2_ := Aside0.mk (Kd.R_below (sqy HO_326001.out) hb); have n3_ := Aside0.mk (Kd.R_below (sqy HO_332001.out) hb); have n4_ := sqb BK319 hb; have n5_ := sqb BK325 hb; have n6_ := sqb BK331 hb; have n7_ := sqs HB hb; clear HO_4; clear HO_320001; clear HO_326001; clear HO_332001; clear BK319; clear BK325; clear BK331; clear HB; have HO_4 := n0_; have HO_320001 := n1_; have HO_326001 := n2_; have HO_332001 := n3_; have BK319 := n4_; have BK325 := n5_; have BK331 := n6_; have HB := n7_; clear n0_ n1_ n2_ n3_ n4_ n5_ n6_ n7_; (try clear hb)))
   (try simp only [Act.put, List.setIfInBounds_toArray, List.set_cons_zero, List.set_cons_succ])
   go_cut [81] (fun v81 wc => ∃ (kq : Nat) (x81_47 : Bool), v81 = .bool x81_47 ∧ Aside0 (laws_FnGapsClose.j1 kq x81_47 t320 t321 = some true) ∧ Aside0 (kq ≤ kj5) ∧ Aside0 (Kd.R (Kd.int .i64) 3 wc w.heap.size (fun k_ => some k_ ≠ ((.slice Ao15 t321.length co15) : Value).ownBlock ∧ some k_ ≠ ((.slice Ao22 t327.length co22) : Value).ownBlock) (.slice Ao10 t313.length co10) t313) ∧ Aside0 (Kd.R (Kd.int .i64) 3 wc w.heap.size (fun k_ => some k_ ≠ ((.slice Ao10 t313.length co10) : Value).ownBlock ∧ some k_ ≠ ((.slice Ao22 t327.length co22) : Value).ownBlock) (.slice Ao15 t321.length co15) t321) ∧ Aside0 (Kd.R (Kd.int .i64) 3 wc w.heap.size (fun k_ => some k_ ≠ ((.slice Ao10 t313.length co10) : Value).ownBlock ∧ some k_ ≠ ((.slice Ao15 t321.length co15) : Value).ownBlock) (.slice Ao22 t327.length co22) t327) ∧ Aside0 (wc.heap[gb319]? = some (.cells #[.int .i64 t312, (.slice Ao10 t313.length co10)] 41 (0, 0))) ∧ Aside0 (wc.heap[gb325]? = some (.cells #[.int .i64 t320, (.slice Ao15 t321.length co15)] 41 (0, 0))) ∧ Aside0 (wc.heap[gb331]? = some (.cells #[.int .i64 t326, (.slice Ao22 t327.length co22)] 41 (0, 0))) ∧ Aside0 (Below w.heap.size w wc))
   case first =>
    as_aux_lemma =>
    have H := HC48.out
    clear HC48
    replace H := sqbi H
    obtain ⟨t335, A56, H⟩ := H
    replace H : (if (t335 != t333) = true then (laws_FnGapsClose.j1 kj5 true t320 t321) else ((impl_GapsIn.f kj5 t320 t321 t312 t313).bind fun t336 => (if t336 = true then ((impl_GapsOk.f kj5 t320 t321).bind fun t337 => (laws_FnGapsClose.j1 kj5 (!t337) t320 t321)) else (laws_FnGapsClose.j1 kj5 true t320 t321)))) = some true := H
    replace H := sqj H
    rcases H with ⟨c57, H⟩ | ⟨c57, H⟩
    ·have c57b0 : (t335 != t333) = true := c57
     (try (have c57b1 : decide (t335 = t333) = false := by simpa using c57))
     (try (have c57b2 : (t335 == t333) = false := by simpa using c57))
     (try (have c57b3 : ¬ (t335 = t333) := by simpa using c57))
     clear c57
     (first | rw [c57b0] | (simp only [i64_w, i32_w]; rw [c57b0]) | skip)
     have H' := Aside0.mk H
     clear H
     have hnb58 := NB325_319.out
     have hnc58 := NB319_325.out
     have hnb59 := NB325_331.out
     have hnc59 := NB331_325.out
     obtain ⟨hcz60_0, hcz60_1, hfz60_0, hfz60_1⟩ := sqc2 BK325
     go_wp2_with (first | ((with_reducible refine gate_callee (f := 28) rfl ?_); refine sqL (some 68) Try.func28 #[.agg #[.int .i64 t320, .slice Ao15 t321.length co15], .slice Ao52 t316.length co52] ?_; (with_reducible refine (impl_GapsHas.calls kj5 t320 _ _ t321 _ _ t316 t335 _ ?side1 ?side2 ?side3 ?side4 A56.out).mono ?_); (case side1 => exact sqC (Kd.R_reads' HO_326001.out).2.2); (case side2 => exact (Kd.R_reads' HO_326001.out).2.1); (case side3 => exact sqC (Kd.R_reads' HO_4.out).2.2); (case side4 => exact (Kd.R_reads' HO_4.out).2.1); rintro e w61 ⟨rfl, hb⟩; refine ⟨_, rfl, ?_⟩; have n0_ := Aside0.mk (Kd.R_below (sqy HO_4.out) hb); have n1_ := Aside0.mk (Kd.R_below (sqy HO_320001.out) hb); have n2_ := Aside0.mk (Kd.R_below (sqy HO_326001.out) hb); have n3_ := Aside0.mk (Kd.R_below (sqy HO_332001.out) hb); have n4_ := sqb BK319 hb; have n5_ := sqb BK325 hb; have n6_ := sqb BK331 hb; have n7_ := sqs HB hb; clear HO_4; clear HO_320001; clear HO_326001; clear HO_332001; clear BK319; clear BK325; clear BK331; clear HB; have HO_4 := n0_; have HO_320001 := n1_; have HO_326001 := n2_; have HO_332001 := n3_; have BK319 := n4_; have BK325 := n5_; have BK331 := n6_; have HB := n7_; clear n0_ n1_ n2_ n3_ n4_ n5_ n6_ n7_; (try clear hb)))
     go_meet
     case rel => exact ⟨_, (true), (by first | rfl | (simp; done) | (simp [*]; done)), H', ⟨by have := HJ5.out; first | omega | exact Nat.le_refl _⟩, ⟨by (with_reducible repeat (first | apply Kd.R_alloc | apply Kd.R_drewN | apply Kd.R_drew)); exact Kd.R_mono HO_320001.out (fun _ hk => ⟨hk.2.1, hk.2.2⟩)⟩, ⟨by (with_reducible repeat (first | apply Kd.R_alloc | apply Kd.R_drewN | apply Kd.R_drew)); exact Kd.R_mono HO_326001.out (fun _ hk => ⟨hk.2.1, hk.2.2⟩)⟩, ⟨by (with_reducible repeat (first | apply Kd.R_alloc | apply Kd.R_drewN | apply Kd.R_drew)); exact Kd.R_mono HO_332001.out (fun _ hk => ⟨hk.2.1, hk.2.2⟩)⟩, sqk BK319, sqk BK325, sqk BK331, sqh HB⟩
    have c57b0 : (t335 != t333) = false := by simpa using c57
    (try (have c57b1 : decide (t335 = t333) = true := by simpa using c57))
    (try (have c57b2 : (t335 == t333) = true := by simpa using c57))
    clear c57
    (first | rw [c57b0] | (simp only [i64_w, i32_w]; rw [c57b0]) | skip)
    replace H := sqbi H
    obtain ⟨t336, A62, H⟩ := H
    replace H : (if t336 = true then ((impl_GapsOk.f kj5 t320 t321).bind fun t337 => (laws_FnGapsClose.j1 kj5 (!t337) t320 t321)) else (laws_FnGapsClose.j1 kj5 true t320 t321)) = some true := H
    rcases sqI (t336 = true) with c63 | c63
    ·replace c63 := Bool.eq_false_iff.mpr c63
     subst c63
     have H1 : (laws_FnGapsClose.j1 kj5 true t320 t321) = some true := by rw [if_neg (show ¬ (false = true) by decide)] at H; exact H
     clear H
     have H := H1
     clear H1
     have H' := Aside0.mk H
     clear H
     have hnb75 := NB325_319.out
     have hnc75 := NB319_325.out
     have hnb76 := NB325_331.out
     have hnc76 := NB331_325.out
     obtain ⟨hcz77_0, hcz77_1, hfz77_0, hfz77_1⟩ := sqc2 BK325
     go_wp2_with (first | ((with_reducible refine gate_callee (f := 28) rfl ?_); refine sqL (some 68) Try.func28 #[.agg #[.int .i64 t320, .slice Ao15 t321.length co15], .slice Ao52 t316.length co52] ?_; (with_reducible refine (impl_GapsHas.calls kj5 t320 _ _ t321 _ _ t316 t335 _ ?side1 ?side2 ?side3 ?side4 A56.out).mono ?_); (case side1 => exact sqC (Kd.R_reads' HO_326001.out).2.2); (case side2 => exact (Kd.R_reads' HO_326001.out).2.1); (case side3 => exact sqC (Kd.R_reads' HO_4.out).2.2); (case side4 => exact (Kd.R_reads' HO_4.out).2.1); rintro e w78 ⟨rfl, hb⟩; refine ⟨_, rfl, ?_⟩; have n0_ := Aside0.mk (Kd.R_below (sqy HO_4.out) hb); have n1_ := Aside0.mk (Kd.R_below (sqy HO_320001.out) hb); have n2_ := Aside0.mk (Kd.R_below (sqy HO_326001.out) hb); have n3_ := Aside0.mk (Kd.R_below (sqy HO_332001.out) hb); have n4_ := sqb BK319 hb; have n5_ := sqb BK325 hb; have n6_ := sqb BK331 hb; have n7_ := sqs HB hb; clear HO_4; clear HO_320001; clear HO_326001; clear HO_332001; clear BK319; clear BK325; clear BK331; clear HB; have HO_4 := n0_; have HO_320001 := n1_; have HO_326001 := n2_; have HO_332001 := n3_; have BK319 := n4_; have BK325 := n5_; have BK331 := n6_; have HB := n7_; clear n0_ n1_ n2_ n3_ n4_ n5_ n6_ n7_; (try clear hb); obtain ⟨hcz79_0, hcz79_1, hfz79_0, hfz79_1⟩ := sqc2 BK325; have hnb80 := NB319_331.out; have hnc80 := NB331_319.out; obtain ⟨hcz81_0, hcz81_1, hfz81_0, hfz81_1⟩ := sqc2 BK319) | (go_at_call 30; (with_reducible refine (impl_GapsIn.calls kj5 t320 _ _ t321 t312 _ _ t313 false _ ?side1 ?side2 ?side3 ?side4 A62.out).mono ?_); (case side1 => exact sqC (Kd.R_reads' HO_326001.out).2.2); (case side2 => exact (Kd.R_reads' HO_326001.out).2.1); (case side3 => exact sqC (Kd.R_reads' HO_320001.out).2.2); (case side4 => exact (Kd.R_reads' HO_320001.out).2.1); rintro e w82 ⟨rfl, hb⟩; have n0_ := Aside0.mk (Kd.R_below (sqy HO_4.out) hb); have n1_ := Aside0.mk (Kd.R_below (sqy HO_320001.out) hb); have n2_ := Aside0.mk (Kd.R_below (sqy HO_326001.out) hb); have n3_ := Aside0.mk (Kd.R_below (sqy HO_332001.out) hb); have n4_ := sqb BK319 hb; have n5_ := sqb BK325 hb; have n6_ := sqb BK331 hb; have n7_ := sqs HB hb; clear HO_4; clear HO_320001; clear HO_326001; clear HO_332001; clear BK319; clear BK325; clear BK331; clear HB; have HO_4 := n0_; have HO_320001 := n1_; have HO_326001 := n2_; have HO_332001 := n3_; have BK319 := n4_; have BK325 := n5_; have BK331 := n6_; have HB := n7_; clear n0_ n1_ n2_ n3_ n4_ n5_ n6_ n7_; (try clear hb)))
     go_meet
     case rel => exact ⟨_, (true), (by first | rfl | (simp; done) | (simp [*]; done)), H', ⟨by have := HJ5.out; first | omega | exact Nat.le_refl _⟩, ⟨by (with_reducible repeat (first | apply Kd.R_alloc | apply Kd.R_drewN | apply Kd.R_drew)); exact Kd.R_mono HO_320001.out (fun _ hk => ⟨hk.2.1, hk.2.2⟩)⟩, ⟨by (with_reducible repeat (first | apply Kd.R_alloc | apply Kd.R_drewN | apply Kd.R_drew)); exact Kd.R_mono HO_326001.out (fun _ hk => ⟨hk.2.1, hk.2.2⟩)⟩, ⟨by (with_reducible repeat (first | apply Kd.R_alloc | apply Kd.R_drewN | apply Kd.R_drew)); exact Kd.R_mono HO_332001.out (fun _ hk => ⟨hk.2.1, hk.2.2⟩)⟩, sqk BK319, sqk BK325, sqk BK331, sqh HB⟩
    subst c63
    have H1 : ((impl_GapsOk.f kj5 t320 t321).bind fun t337 => (laws_FnGapsClose.j1 kj5 (!t337) t320 t321)) = some true := by rw [if_pos rfl] at H; exact H
    clear H
    have H := H1
    clear H1
    replace H := sqbi H
    obtain ⟨t337, A64, H⟩ := H
    replace H : (laws_FnGapsClose.j1 kj5 (!t337) t320 t321) = some true := H
    have H' := Aside0.mk H
    clear H
    have hnb65 := NB325_319.out
    have hnc65 := NB319_325.out
    have hnb66 := NB325_331.out
    have hnc66 := NB331_325.out
    obtain ⟨hcz67_0, hcz67_1, hfz67_0, hfz67_1⟩ := sqc2 BK325
    go_wp2_with (first | ((with_reducible refine gate_callee (f := 28) rfl ?_); refine sqL (some 68) Try.func28 #[.agg #[.int .i64 t320, .slice Ao15 t321.length co15], .slice Ao52 t316.length co52] ?_; (with_reducible refine (impl_GapsHas.calls kj5 t320 _ _ t321 _ _ t316 t335 _ ?side1 ?side2 ?side3 ?side4 A56.out).mono ?_); (case side1 => exact sqC (Kd.R_reads' HO_326001.out).2.2); (case side2 => exact (Kd.R_reads' HO_326001.out).2.1); (case side3 => exact sqC (Kd.R_reads' HO_4.out).2.2); (case side4 => exact (Kd.R_reads' HO_4.out).2.1); rintro e w68 ⟨rfl, hb⟩; refine ⟨_, rfl, ?_⟩; have n0_ := Aside0.mk (Kd.R_below (sqy HO_4.out) hb); have n1_ := Aside0.mk (Kd.R_below (sqy HO_320001.out) hb); have n2_ := Aside0.mk (Kd.R_below (sqy HO_326001.out) hb); have n3_ := Aside0.mk (Kd.R_below (sqy HO_332001.out) hb); have n4_ := sqb BK319 hb; have n5_ := sqb BK325 hb; have n6_ := sqb BK331 hb; have n7_ := sqs HB hb; clear HO_4; clear HO_320001; clear HO_326001; clear HO_332001; clear BK319; clear BK325; clear BK331; clear HB; have HO_4 := n0_; have HO_320001 := n1_; have HO_326001 := n2_; have HO_332001 := n3_; have BK319 := n4_; have BK325 := n5_; have BK331 := n6_; have HB := n7_; clear n0_ n1_ n2_ n3_ n4_ n5_ n6_ n7_; (try clear hb); obtain ⟨hcz69_0, hcz69_1, hfz69_0, hfz69_1⟩ := sqc2 BK325; have hnb70 := NB319_331.out; have hnc70 := NB331_319.out; obtain ⟨hcz71_0, hcz71_1, hfz71_0, hfz71_1⟩ := sqc2 BK319) | (go_at_call 30; (with_reducible refine (impl_GapsIn.calls kj5 t320 _ _ t321 t312 _ _ t313 true _ ?side1 ?side2 ?side3 ?side4 A62.out).mono ?_); (case side1 => exact sqC (Kd.R_reads' HO_326001.out).2.2); (case side2 => exact (Kd.R_reads' HO_326001.out).2.1); (case side3 => exact sqC (Kd.R_reads' HO_320001.out).2.2); (case side4 => exact (Kd.R_reads' HO_320001.out).2.1); rintro e w72 ⟨rfl, hb⟩; have n0_ := Aside0.mk (Kd.R_below (sqy HO_4.out) hb); have n1_ := Aside0.mk (Kd.R_below (sqy HO_320001.out) hb); have n2_ := Aside0.mk (Kd.R_below (sqy HO_326001.out) hb); have n3_ := Aside0.mk (Kd.R_below (sqy HO_332001.out) hb); have n4_ := sqb BK319 hb; have n5_ := sqb BK325 hb; have n6_ := sqb BK331 hb; have n7_ := sqs HB hb; clear HO_4; clear HO_320001; clear HO_326001; clear HO_332001; clear BK319; clear BK325; clear BK331; clear HB; have HO_4 := n0_; have HO_320001 := n1_; have HO_326001 := n2_; have HO_332001 := n3_; have BK319 := n4_; have BK325 := n5_; have BK331 := n6_; have HB := n7_; clear n0_ n1_ n2_ n3_ n4_ n5_ n6_ n7_; (try clear hb); obtain ⟨hcz73_0, hcz73_1, hfz73_0, hfz73_1⟩ := sqc2 BK325) | (go_at_call 31; (with_reducible refine (impl_GapsOk.calls kj5 t320 _ _ t321 t337 _ ?side1 ?side2 A64.out).mono ?_); (case side1 => exact sqC (Kd.R_reads' HO_326001.out).2.2); (case side2 => exact (Kd.R_reads' HO_326001.out).2.1); rintro e w74 ⟨rfl, hb⟩; have n0_ := Aside0.mk (Kd.R_below (sqy HO_4.out) hb); have n1_ := Aside0.mk (Kd.R_below (sqy HO_320001.out) hb); have n2_ := Aside0.mk (Kd.R_below (sqy HO_326001.out) hb); have n3_ := Aside0.mk (Kd.R_below (sqy HO_332001.out) hb); have n4_ := sqb BK319 hb; have n5_ := sqb BK325 hb; have n6_ := sqb BK331 hb; have n7_ := sqs HB hb; clear HO_4; clear HO_320001; clear HO_326001; clear HO_332001; clear BK319; clear BK325; clear BK331; clear HB; have HO_4 := n0_; have HO_320001 := n1_; have HO_326001 := n2_; have HO_332001 := n3_; have BK319 := n4_; have BK325 := n5_; have BK331 := n6_; have HB := n7_; clear n0_ n1_ n2_ n3_ n4_ n5_ n6_ n7_; (try clear hb)))
    go_meet
    case rel => exact ⟨_, (!t337), (by first | rfl | (simp; done) | (simp [*]; done)), H', ⟨by have := HJ5.out; first | omega | exact Nat.le_refl _⟩, ⟨by (with_reducible repeat (first | apply Kd.R_alloc | apply Kd.R_drewN | apply Kd.R_drew)); exact Kd.R_mono HO_320001.out (fun _ hk => ⟨hk.2.1, hk.2.2⟩)⟩, ⟨by (with_reducible repeat (first | apply Kd.R_alloc | apply Kd.R_drewN | apply Kd.R_drew)); exact Kd.R_mono HO_326001.out (fun _ hk => ⟨hk.2.1, hk.2.2⟩)⟩, ⟨by (with_reducible repeat (first | apply Kd.R_alloc | apply Kd.R_drewN | apply Kd.R_drew)); exact Kd.R_mono HO_332001.out (fun _ hk => ⟨hk.2.1, hk.2.2⟩)⟩, sqk BK319, sqk BK325, sqk BK331, sqh HB⟩
   case rest =>
    as_aux_lemma =>
    clear HC48
    obtain ⟨kq, x81_47, rfl, HA, HJ47, HO_320001, HO_326001, HO_332001, BK319, BK325, BK331, HB⟩ := hcut
    cases kq with
    | zero => exact absurd HA.out (by simp [laws_FnGapsClose.j1])
    | succ kj47 =>
     have H := HA.out
     clear HA
     simp only [laws_FnGapsClose.j1] at H
     by_cases c83 : x81_47 = true
     ·subst c83
      have H1 : (some false) = some true := by rw [if_pos rfl] at H; exact H
      clear H
      have H := H1
      clear H1
      exact absurd (Option.some.inj H) (by decide)
     replace c83 := Bool.eq_false_iff.mpr c83
     subst c83
     have H1 : ((impl_GapsClose.f kj47 t320 t321).bind fun bt338 => (if bt338.2.2 = true then ((laws_sameInts.f kj47 bt338.2.1 t321).bind fun t344 => (some t344)) else (some false))) = some true := by rw [if_neg (show ¬ (false = true) by decide)] at H; exact H
     clear H
     have H := H1
     clear H1
     replace H := sqbi H
     obtain ⟨⟨t338, t339, t342⟩, A84, H⟩ := H
     replace H : (if t342 = true then ((laws_sameInts.f kj47 t339 t321).bind fun t344 => (some t344)) else (some false)) = some true := H
     rcases sqI (t342 = true) with c85 | c85
     ·replace c85 := Bool.eq_false_iff.mpr c85
      subst c85
      have H1 : (some false) = some true := by rw [if_neg (show ¬ (false = true) by decide)] at H; exact H
      clear H
      have H := H1
      clear H1
      exact absurd (Option.some.inj H) (by decide)
     subst c85
     have H1 : ((laws_sameInts.f kj47 t339 t321).bind fun t344 => (some t344)) = some true := by rw [if_pos rfl] at H; exact H
     clear H
     have H := H1
     clear H1
     replace H := sqbi H
     obtain ⟨t344, A86, H⟩ := H
     replace H : (some t344) = some true := H
     (first | (obtain rfl := Option.some.inj H) | (have ht_ : (_ == _) = true := Option.some.inj H; clear H) | clear H)
     have hnb87 := NB325_319.out
     have hnc87 := NB319_325.out
     have hnb88 := NB325_331.out
     have hnc88 := NB331_325.out
     obtain ⟨hcz89_0, hcz89_1, hfz89_0, hfz89_1⟩ := sqc2 BK325
     go_wp2_with (first | ((with_reducible refine gate_callee (f := 25) rfl ?_); refine sqL (some 84) Try.func25 #[.agg #[.int .i64 t320, .slice Ao15 t321.length co15]] ?_; (with_reducible refine (impl_GapsClose.calls kj47 t320 _ _ t321 t338 t339 true _ ?side1 ?side2 A84.out).mono ?_); (case side1 => exact sqC (Kd.R_reads' HO_326001.out).2.2); (case side2 => exact (Kd.R_reads' HO_326001.out).2.1); rintro e w90 ⟨v340, rfl, ho0, hb⟩; refine ⟨_, rfl, ?_⟩; have n0_ := Aside0.mk (Kd.R_elder' (sqy HO_320001.out) (Kd.R_base ho0) hb); have n1_ := Aside0.mk (Kd.R_elder' (sqy HO_326001.out) (Kd.R_base ho0) hb); have n2_ := Aside0.mk (Kd.R_elder' (sqy HO_332001.out) (Kd.R_base ho0) hb); have n3_ := Aside0.mk (Kd.R_lower (Kd.R_new' (Kd.R_new' (Kd.R_new' ho0 (Kd.R_lt (sqy HO_320001.out))) (Kd.R_lt (sqy HO_326001.out))) (Kd.R_lt (sqy HO_332001.out))) (below_size (sqB HB))); have n4_ := sqb BK319 hb; have n5_ := sqb BK325 hb; have n6_ := sqb BK331 hb; have n7_ := sqs HB hb; clear HO_320001; clear HO_326001; clear HO_332001; clear BK319; clear BK325; clear BK331; clear HB; have HO_320001 := n0_; have HO_326001 := n1_; have HO_332001 := n2_; have HO341 := n3_; have BK319 := n4_; have BK325 := n5_; have BK331 := n6_; have HB := n7_; clear n0_ n1_ n2_ n3_ n4_ n5_ n6_ n7_; (try clear hb); (try clear hb2); (try clear hk); (try clear hi); (try clear ho0)) | ((with_reducible refine gate_dst (N := 10) rfl ?_); (try (refine gate_guard (by rfl) ?_; dsimp only)); refine sqx 10 #[.int .i64 0, .slice none 0 0] 41 ?_; intro gb343 hg w91 hbox hb; have n0_ := Aside0.mk (Kd.R_below (sqy HO_320001.out) hb); have n1_ := Aside0.mk (Kd.R_below (sqy HO_326001.out) hb); have n2_ := Aside0.mk (Kd.R_below (sqy HO_332001.out) hb); have n3_ := Aside0.mk (Kd.R_below (sqy HO341.out) hb); have n4_ := sqb BK319 hb; have n5_ := sqb BK325 hb; have n6_ := sqb BK331 hb; have n7_ := sqs HB hb; have n8_ := Aside0.mk (hbox); have n9_ := sqg HB hg; have n10_ := sqg HB hg; have n11_ := sqn BK319 hg; have n12_ := sqm BK319 hg; have n13_ := sqn BK325 hg; have n14_ := sqm BK325 hg; have n15_ := sqn BK331 hg; have n16_ := sqm BK331 hg; clear HO_320001; clear HO_326001; clear HO_332001; clear HO341; clear BK319; clear BK325; clear BK331; clear HB; have HO_320001 := n0_; have HO_326001 := n1_; have HO_332001 := n2_; have HO341 := n3_; have BK319 := n4_; have BK325 := n5_; have BK331 := n6_; have HB := n7_; have BK343 := n8_; have GW343 := n9_; have GE343 := n10_; have NB319_343 := n11_; have NB343_319 := n12_; have NB325_343 := n13_; have NB343_325 := n14_; have NB331_343 := n15_; have NB343_331 := n16_; clear n0_ n1_ n2_ n3_ n4_ n5_ n6_ n7_ n8_ n9_ n10_ n11_ n12_ n13_ n14_ n15_ n16_; clear hb hbox hg; have hnb92 := NB343_319.out; have hnc92 := NB319_343.out; have hnb93 := NB343_325.out; have hnc93 := NB325_343.out; have hnb94 := NB343_331.out; have hnc94 := NB331_343.out; obtain ⟨hcz95_0, hcz95_1, hfz95_0, hfz95_1⟩ := sqc2 BK343; obtain ⟨Ao96, co96, eo96⟩ := Kd.R_slice HO341.out; subst eo96; obtain ⟨hcz97_0, hcz97_1, hfz97_0, hfz97_1⟩ := sqc2 BK325) | (go_at_call 27; (with_reducible refine (laws_sameInts.calls kj47 _ _ t339 _ _ t321 true _ ?side1 ?side2 ?side3 ?side4 A86.out).mono ?_); (case side1 => refine (Kd.R_reads' (e := 3) (base := w.heap.size) (ok := fun k_ => (((True ∧ some k_ ≠ (.slice Ao10 t313.length co10 : Value).ownBlock) ∧ some k_ ≠ (.slice Ao15 t321.length co15 : Value).ownBlock) ∧ some k_ ≠ (.slice Ao22 t327.length co22 : Value).ownBlock)) (n := t339.length) (c := co96) ?_).2.2; exact (by (with_reducible repeat (first | apply Kd.R_alloc | apply Kd.R_drewN | apply Kd.R_drew)); exact (Kd.R_mono (Kd.R_far (p := ⟨gb343, 1, none⟩) (Kd.R_far (p := ⟨gb343, 0, none⟩) (Kd.R_types HO341.out BK343.out (by decide)) (fun _ hk => hk.2) (.int .i64 t338)) (fun _ hk => hk.2) (.slice Ao96 t339.length co96)) (fun _ h_ => h_.1)))); (case side2 => exact (Kd.R_reads' HO341.out).2.1); (case side3 => refine (Kd.R_reads' (e := 3) (base := w.heap.size) (ok := fun k_ => ((some k_ ≠ (.slice Ao10 t313.length co10 : Value).ownBlock ∧ some k_ ≠ (.slice Ao22 t327.length co22 : Value).ownBlock) ∧ some k_ ≠ (.slice Ao96 t339.length co96 : Value).ownBlock)) (n := t321.length) (c := co15) ?_).2.2; exact (by (with_reducible repeat (first | apply Kd.R_alloc | apply Kd.R_drewN | apply Kd.R_drew)); exact (Kd.R_mono (Kd.R_far (p := ⟨gb343, 1, none⟩) (Kd.R_far (p := ⟨gb343, 0, none⟩) (Kd.R_types HO_326001.out BK343.out (by decide)) (fun _ hk => hk.2) (.int .i64 t338)) (fun _ hk => hk.2) (.slice Ao96 t339.length co96)) (fun _ h_ => h_.1)))); (case side4 => exact (Kd.R_reads' HO_326001.out).2.1); rintro e w' ⟨rfl, ⟨nd, rfl⟩⟩))
     go_ret
     exact sqe HB

/-- THE ONE PURE STATEMENT of laws_FnGapsClose: yours. -/
theorem laws_FnGapsClose.walk (P : laws_FnGapsClose.Pure) (a0 : Option Addr) (len0 cap0 : Nat) (z0 : List Int) (w : World) (w0 : (a0 = none ∧ len0 = 0 ∧ cap0 = 0 ∧ z0 = []) ∨ ∃ x, a0 = some x ∧ len0 ≤ cap0 ∧ cap0 ≤ maxLen ∧ z0.length = cap0 ∧ (∀ i, i < z0.length → w.cell? (x.add i) = some (.int .u8 (z0.getD i 0))) ∧ ∀ n ∈ z0, (Lit.int .u8 n).wf = true) (y0 : len0 * 1 ≤ 140737488351232) :
  Calls Try.prog 4 #[.slice a0 len0 cap0] w fun e w' => e = .returned (.bool true) ∧ Below w.heap.size w w' := by
 obtain ⟨l0, rfl, hr0, hm0, hw0, hc0⟩ := ReadsInt.ofRowC w0
 obtain ⟨k, h⟩ := P l0 hm0 y0 hw0
 refine (laws_FnGapsClose.calls k _ _ l0 true w (Kd.C_of_reads (d := (0 : Int)) (h1 := fun _ => rfl) hr0) hc0 h).mono ?_
 rintro e w' ⟨rfl, hd⟩
 exact ⟨rfl, hd⟩

end Go.Proofs.Ytkekcenlleebeaa.PFnGapsClose
