/- Functions of the program as plain Lean functions, and that calls of them come to what these tell. Conditions: those in each law. -/
import Derived.Test.YtkekcenlleebeaaSq
import Derived.Test.YtkekcenlleebeaaDFnRangeCmp
import Derived.Test.YtkekcenlleebeaaQFnRangeCmpx0
import Derived.Test.YtkekcenlleebeaaQFnRangeCmpx1
import Derived.Test.YtkekcenlleebeaaQFnRangeCmpx3
import Derived.Test.YtkekcenlleebeaaQFnRangeCmpx4
import Derived.Test.YtkekcenlleebeaaQFnRangeCmpx7
import Derived.Test.YtkekcenlleebeaaQFnRangeCmpx10
import Derived.Test.YtkekcenlleebeaaQFnRangeCmpx13
import Derived.Test.YtkekcenlleebeaaQFnRangeCmpx14
namespace Go.Proofs.Ytkekcenlleebeaa.PFnRangeCmp
open Go.RowKit Go.Proofs.Ytkekcenlleebeaa.Sq Go.Proofs.YtkekcenlleebeaaW.PrintWords Go.Proofs.YtkekcenlleebeaaW.PrintLast Go.Proofs.YtkekcenlleebeaaW.PrintMore
attribute [local go_sem] max2_int min2_int max_two min_two max_three min_three max_four min_four   -- for this text's walks alone
set_option linter.unusedVariables false
set_option linter.unusedSimpArgs false

attribute [local go_sem high] eqA24
/-! ### laws_FnRangeCmp: function 7 -/
theorem laws_FnRangeCmp.mono_l : ∀ k, (∀ y0 y1 y2 y3 y4 y5 y6 y7 y8 y9 y10, LeO (laws_FnRangeCmp.j0 k y0 y1 y2 y3 y4 y5 y6 y7 y8 y9 y10) (laws_FnRangeCmp.j0 (k + 1) y0 y1 y2 y3 y4 y5 y6 y7 y8 y9 y10)) ∧ (∀ y0 y1 y2 y3 y4 y5 y6 y7 y8 y9 y10, LeO (laws_FnRangeCmp.j1 k y0 y1 y2 y3 y4 y5 y6 y7 y8 y9 y10) (laws_FnRangeCmp.j1 (k + 1) y0 y1 y2 y3 y4 y5 y6 y7 y8 y9 y10)) ∧ (∀ y0 y1 y2 y3 y4 y5 y6 y7 y8 y9 y10, LeO (laws_FnRangeCmp.j2 k y0 y1 y2 y3 y4 y5 y6 y7 y8 y9 y10) (laws_FnRangeCmp.j2 (k + 1) y0 y1 y2 y3 y4 y5 y6 y7 y8 y9 y10)) ∧ (∀ y0 y1 y2 y3 y4 y5 y6 y7 y8 y9 y10, LeO (laws_FnRangeCmp.j3 k y0 y1 y2 y3 y4 y5 y6 y7 y8 y9 y10) (laws_FnRangeCmp.j3 (k + 1) y0 y1 y2 y3 y4 y5 y6 y7 y8 y9 y10)) ∧ (∀ y0 y1 y2 y3 y4 y5 y6 y7 y8 y9 y10, LeO (laws_FnRangeCmp.l0 k y0 y1 y2 y3 y4 y5 y6 y7 y8 y9 y10) (laws_FnRangeCmp.l0 (k + 1) y0 y1 y2 y3 y4 y5 y6 y7 y8 y9 y10))
  | 0 => ⟨fun _ _ _ _ _ _ _ _ _ _ _ r h => by simp [laws_FnRangeCmp.j0] at h, fun _ _ _ _ _ _ _ _ _ _ _ r h => by simp [laws_FnRangeCmp.j1] at h, fun _ _ _ _ _ _ _ _ _ _ _ r h => by simp [laws_FnRangeCmp.j2] at h, fun _ _ _ _ _ _ _ _ _ _ _ r h => by simp [laws_FnRangeCmp.j3] at h, fun _ _ _ _ _ _ _ _ _ _ _ r h => by simp [laws_FnRangeCmp.l0] at h⟩
  | k + 1 => by
    obtain ⟨ih0, ih1, ih2, ih3, ih4⟩ := laws_FnRangeCmp.mono_l k
    refine ⟨?_, ?_, ?_, ?_, ?_⟩
    · intro y0 y1 y2 y3 y4 y5 y6 y7 y8 y9 y10
      unfold laws_FnRangeCmp.j0
      repeat' first
      | (with_reducible exact ih0 _ _ _ _ _ _ _ _ _ _ _)
      | (with_reducible exact ih1 _ _ _ _ _ _ _ _ _ _ _)
      | (with_reducible exact ih2 _ _ _ _ _ _ _ _ _ _ _)
      | (with_reducible exact ih3 _ _ _ _ _ _ _ _ _ _ _)
      | (with_reducible exact ih4 _ _ _ _ _ _ _ _ _ _ _)
      | (with_reducible exact impl_RangeCmp.mono _ _ _ _ _ _)
      | (with_reducible exact laws_within.mono _ _ _ _ _)
      | (with_reducible exact spec_DrawRangeCmp.mono _ _)
      | (with_reducible exact spec_RangeCmp.mono _ _ _ _ _ _)
      | (with_reducible exact LeO.refl _)
      | (with_reducible exact LeO.none _)
      | (with_reducible refine LeO.ite ?_ ?_)
      | (with_reducible refine LeO.bind ?_ (fun _ => ?_))
      | exact ih0 _ _ _ _ _ _ _ _ _ _ _
      | exact ih1 _ _ _ _ _ _ _ _ _ _ _
      | exact ih2 _ _ _ _ _ _ _ _ _ _ _
      | exact ih3 _ _ _ _ _ _ _ _ _ _ _
      | exact ih4 _ _ _ _ _ _ _ _ _ _ _
      | exact impl_RangeCmp.mono _ _ _ _ _ _
      | exact laws_within.mono _ _ _ _ _
      | exact spec_DrawRangeCmp.mono _ _
      | exact spec_RangeCmp.mono _ _ _ _ _ _
      | exact LeO.none _
      | refine LeO.ite ?_ ?_
      | refine LeO.bind ?_ (fun _ => ?_)
    · intro y0 y1 y2 y3 y4 y5 y6 y7 y8 y9 y10
      unfold laws_FnRangeCmp.j1
      repeat' first
      | (with_reducible exact ih0 _ _ _ _ _ _ _ _ _ _ _)
      | (with_reducible exact ih1 _ _ _ _ _ _ _ _ _ _ _)
      | (with_reducible exact ih2 _ _ _ _ _ _ _ _ _ _ _)
      | (with_reducible exact ih3 _ _ _ _ _ _ _ _ _ _ _)
      | (with_reducible exact ih4 _ _ _ _ _ _ _ _ _ _ _)
      | (with_reducible exact impl_RangeCmp.mono _ _ _ _ _ _)
      | (with_reducible exact laws_within.mono _ _ _ _ _)
      | (with_reducible exact spec_DrawRangeCmp.mono _ _)
      | (with_reducible exact spec_RangeCmp.mono _ _ _ _ _ _)
      | (with_reducible exact LeO.refl _)
      | (with_reducible exact LeO.none _)
      | (with_reducible refine LeO.ite ?_ ?_)
      | (with_reducible refine LeO.bind ?_ (fun _ => ?_))
      | exact ih0 _ _ _ _ _ _ _ _ _ _ _
      | exact ih1 _ _ _ _ _ _ _ _ _ _ _
      | exact ih2 _ _ _ _ _ _ _ _ _ _ _
      | exact ih3 _ _ _ _ _ _ _ _ _ _ _
      | exact ih4 _ _ _ _ _ _ _ _ _ _ _
      | exact impl_RangeCmp.mono _ _ _ _ _ _
      | exact laws_within.mono _ _ _ _ _
      | exact spec_DrawRangeCmp.mono _ _
      | exact spec_RangeCmp.mono _ _ _ _ _ _
      | exact LeO.none _
      | refine LeO.ite ?_ ?_
      | refine LeO.bind ?_ (fun _ => ?_)
    · intro y0 y1 y2 y3 y4 y5 y6 y7 y8 y9 y10
      unfold laws_FnRangeCmp.j2
      repeat' first
      | (with_reducible exact ih0 _ _ _ _ _ _ _ _ _ _ _)
      | (with_reducible exact ih1 _ _ _ _ _ _ _ _ _ _ _)
      | (with_reducible exact ih2 _ _ _ _ _ _ _ _ _ _ _)
      | (with_reducible exact ih3 _ _ _ _ _ _ _ _ _ _ _)
      | (with_reducible exact ih4 _ _ _ _ _ _ _ _ _ _ _)
      | (with_reducible exact impl_RangeCmp.mono _ _ _ _ _ _)
      | (with_reducible exact laws_within.mono _ _ _ _ _)
      | (with_reducible exact spec_DrawRangeCmp.mono _ _)
      | (with_reducible exact spec_RangeCmp.mono _ _ _ _ _ _)
      | (with_reducible exact LeO.refl _)
      | (with_reducible exact LeO.none _)
      | (with_reducible refine LeO.ite ?_ ?_)
      | (with_reducible refine LeO.bind ?_ (fun _ => ?_))
      | exact ih0 _ _ _ _ _ _ _ _ _ _ _
      | exact ih1 _ _ _ _ _ _ _ _ _ _ _
      | exact ih2 _ _ _ _ _ _ _ _ _ _ _
      | exact ih3 _ _ _ _ _ _ _ _ _ _ _
      | exact ih4 _ _ _ _ _ _ _ _ _ _ _
      | exact impl_RangeCmp.mono _ _ _ _ _ _
      | exact laws_within.mono _ _ _ _ _
      | exact spec_DrawRangeCmp.mono _ _
      | exact spec_RangeCmp.mono _ _ _ _ _ _
      | exact LeO.none _
      | refine LeO.ite ?_ ?_
      | refine LeO.bind ?_ (fun _ => ?_)
    · intro y0 y1 y2 y3 y4 y5 y6 y7 y8 y9 y10
      unfold laws_FnRangeCmp.j3
      repeat' first
      | (with_reducible exact ih0 _ _ _ _ _ _ _ _ _ _ _)
      | (with_reducible exact ih1 _ _ _ _ _ _ _ _ _ _ _)
      | (with_reducible exact ih2 _ _ _ _ _ _ _ _ _ _ _)
      | (with_reducible exact ih3 _ _ _ _ _ _ _ _ _ _ _)
      | (with_reducible exact ih4 _ _ _ _ _ _ _ _ _ _ _)
      | (with_reducible exact impl_RangeCmp.mono _ _ _ _ _ _)
      | (with_reducible exact laws_within.mono _ _ _ _ _)
      | (with_reducible exact spec_DrawRangeCmp.mono _ _)
      | (with_reducible exact spec_RangeCmp.mono _ _ _ _ _ _)
      | (with_reducible exact LeO.refl _)
      | (with_reducible exact LeO.none _)
      | (with_reducible refine LeO.ite ?_ ?_)
      | (with_reducible refine LeO.bind ?_ (fun _ => ?_))
      | exact ih0 _ _ _ _ _ _ _ _ _ _ _
      | exact ih1 _ _ _ _ _ _ _ _ _ _ _
      | exact ih2 _ _ _ _ _ _ _ _ _ _ _
      | exact ih3 _ _ _ _ _ _ _ _ _ _ _
      | exact ih4 _ _ _ _ _ _ _ _ _ _ _
      | exact impl_RangeCmp.mono _ _ _ _ _ _
      | exact laws_within.mono _ _ _ _ _
      | exact spec_DrawRangeCmp.mono _ _
      | exact spec_RangeCmp.mono _ _ _ _ _ _
      | exact LeO.none _
      | refine LeO.ite ?_ ?_
      | refine LeO.bind ?_ (fun _ => ?_)
    · intro y0 y1 y2 y3 y4 y5 y6 y7 y8 y9 y10
      unfold laws_FnRangeCmp.l0
      repeat' first
      | (with_reducible exact ih0 _ _ _ _ _ _ _ _ _ _ _)
      | (with_reducible exact ih1 _ _ _ _ _ _ _ _ _ _ _)
      | (with_reducible exact ih2 _ _ _ _ _ _ _ _ _ _ _)
      | (with_reducible exact ih3 _ _ _ _ _ _ _ _ _ _ _)
      | (with_reducible exact ih4 _ _ _ _ _ _ _ _ _ _ _)
      | (with_reducible exact impl_RangeCmp.mono _ _ _ _ _ _)
      | (with_reducible exact laws_within.mono _ _ _ _ _)
      | (with_reducible exact spec_DrawRangeCmp.mono _ _)
      | (with_reducible exact spec_RangeCmp.mono _ _ _ _ _ _)
      | (with_reducible exact LeO.refl _)
      | (with_reducible exact LeO.none _)
      | (with_reducible refine LeO.ite ?_ ?_)
      | (with_reducible refine LeO.bind ?_ (fun _ => ?_))
      | exact ih0 _ _ _ _ _ _ _ _ _ _ _
      | exact ih1 _ _ _ _ _ _ _ _ _ _ _
      | exact ih2 _ _ _ _ _ _ _ _ _ _ _
      | exact ih3 _ _ _ _ _ _ _ _ _ _ _
      | exact ih4 _ _ _ _ _ _ _ _ _ _ _
      | exact impl_RangeCmp.mono _ _ _ _ _ _
      | exact laws_within.mono _ _ _ _ _
      | exact spec_DrawRangeCmp.mono _ _
      | exact spec_RangeCmp.mono _ _ _ _ _ _
      | exact LeO.none _
      | refine LeO.ite ?_ ?_
      | refine LeO.bind ?_ (fun _ => ?_)
theorem laws_FnRangeCmp.mono : ∀ a0 k, LeO (laws_FnRangeCmp.f k a0) (laws_FnRangeCmp.f (k + 1) a0) := by
  intro a0 k
  obtain ⟨ih0, ih1, ih2, ih3, ih4⟩ := laws_FnRangeCmp.mono_l k
  unfold laws_FnRangeCmp.f
  repeat' first
      | (with_reducible exact ih0 _ _ _ _ _ _ _ _ _ _ _)
      | (with_reducible exact ih1 _ _ _ _ _ _ _ _ _ _ _)
      | (with_reducible exact ih2 _ _ _ _ _ _ _ _ _ _ _)
      | (with_reducible exact ih3 _ _ _ _ _ _ _ _ _ _ _)
      | (with_reducible exact ih4 _ _ _ _ _ _ _ _ _ _ _)
      | (with_reducible exact impl_RangeCmp.mono _ _ _ _ _ _)
      | (with_reducible exact laws_within.mono _ _ _ _ _)
      | (with_reducible exact spec_DrawRangeCmp.mono _ _)
      | (with_reducible exact spec_RangeCmp.mono _ _ _ _ _ _)
      | (with_reducible exact LeO.refl _)
      | (with_reducible exact LeO.none _)
      | (with_reducible refine LeO.ite ?_ ?_)
      | (with_reducible refine LeO.bind ?_ (fun _ => ?_))
      | exact ih0 _ _ _ _ _ _ _ _ _ _ _
      | exact ih1 _ _ _ _ _ _ _ _ _ _ _
      | exact ih2 _ _ _ _ _ _ _ _ _ _ _
      | exact ih3 _ _ _ _ _ _ _ _ _ _ _
      | exact ih4 _ _ _ _ _ _ _ _ _ _ _
      | exact impl_RangeCmp.mono _ _ _ _ _ _
      | exact laws_within.mono _ _ _ _ _
      | exact spec_DrawRangeCmp.mono _ _
      | exact spec_RangeCmp.mono _ _ _ _ _ _
      | exact LeO.none _
      | refine LeO.ite ?_ ?_
      | refine LeO.bind ?_ (fun _ => ?_)
set_option maxHeartbeats 8000000 in
set_option maxRecDepth 100000 in
theorem laws_FnRangeCmp.calls (k : Nat) (A0 : Option Addr) (c0 : Nat) (l0 : List Int) (r : Bool) (w : World) (hr0 : Kd.C (Kd.int .u8) w A0 l0.length l0) (hc0 : l0.length ≤ c0) (h : laws_FnRangeCmp.f k l0 = some r) :
    Calls Try.prog 7 #[.slice A0 l0.length c0] w fun e w' => e = .returned (.bool r) ∧ Below w.heap.size w w' := by
  have hu24 := Try.underlying24
  have HR0 := Aside0.mk hr0
  have HC0 := Aside0.mk hc0
  clear hr0 hc0
  have HB := Aside0.mk (Below.refl w.heap.size w)
  have H : (if (l0.length : Int) > 1048576 then (some true) else ((spec_DrawRangeCmp.f k l0).bind fun bt391 => ((impl_RangeCmp.f k bt391.1 bt391.2.1 bt391.2.2.1 bt391.2.2.2.1 bt391.2.2.2.2).bind fun bt398 => ((spec_RangeCmp.f k bt391.1 bt391.2.1 bt391.2.2.1 bt391.2.2.2.1 bt391.2.2.2.2).bind fun bt404 => (if (!(bt398.1 == bt404.1) || (!(bt398.2.1 == bt404.2.1))) = true then (laws_FnRangeCmp.j0 k l0 bt391.1 true bt391.2.1 bt391.2.2.1 bt391.2.2.2.1 bt391.2.2.2.2 bt398.1 bt398.2.1 bt398.2.2.1 bt398.2.2.2) else (laws_FnRangeCmp.j0 k l0 bt391.1 (!(bt398.2.2.1 == bt404.2.2.1) || (!(bt398.2.2.2 == bt404.2.2.2))) bt391.2.1 bt391.2.2.1 bt391.2.2.2.1 bt391.2.2.2.2 bt398.1 bt398.2.1 bt398.2.2.1 bt398.2.2.2)))))) = some r := h
  clear h
  by_cases c2 : (l0.length : Int) > 1048576
  · rw [if_pos c2] at H
    have c2b0 : decide (1048576 < (l0.length : Int)) = true := decide_eq_true c2
    have c2b1 : decide (1048576 < l0.length) = true := decide_eq_true (by omega)
    clear c2
    obtain rfl := Option.some.inj H
    go_enter Try.func7, Try.ntmps7
    go_wp2
    go_ret
    exact sqe HB
  · rw [if_neg c2] at H
    have c2b0 : decide (1048576 < (l0.length : Int)) = false := decide_eq_false c2
    have c2b1 : decide (1048576 < l0.length) = false := decide_eq_false (by omega)
    clear c2
    replace H := Option.bind_eq_some_iff.mp H
    obtain ⟨⟨t391, t392, t393, t394, t395⟩, A30, H⟩ := H
    replace H : ((impl_RangeCmp.f k t391 t392 t393 t394 t395).bind fun bt398 => ((spec_RangeCmp.f k t391 t392 t393 t394 t395).bind fun bt404 => (if (!(bt398.1 == bt404.1) || (!(bt398.2.1 == bt404.2.1))) = true then (laws_FnRangeCmp.j0 k l0 t391 true t392 t393 t394 t395 bt398.1 bt398.2.1 bt398.2.2.1 bt398.2.2.2) else (laws_FnRangeCmp.j0 k l0 t391 (!(bt398.2.2.1 == bt404.2.2.1) || (!(bt398.2.2.2 == bt404.2.2.2))) t392 t393 t394 t395 bt398.1 bt398.2.1 bt398.2.2.1 bt398.2.2.2)))) = some r := H
    have A3 := Aside0.mk A30
    clear A30
    replace H := Option.bind_eq_some_iff.mp H
    obtain ⟨⟨t398, t399, t400, t401⟩, A40, H⟩ := H
    replace H : ((spec_RangeCmp.f k t391 t392 t393 t394 t395).bind fun bt404 => (if (!(t398 == bt404.1) || (!(t399 == bt404.2.1))) = true then (laws_FnRangeCmp.j0 k l0 t391 true t392 t393 t394 t395 t398 t399 t400 t401) else (laws_FnRangeCmp.j0 k l0 t391 (!(t400 == bt404.2.2.1) || (!(t401 == bt404.2.2.2))) t392 t393 t394 t395 t398 t399 t400 t401))) = some r := H
    have A4 := Aside0.mk A40
    clear A40
    replace H := Option.bind_eq_some_iff.mp H
    obtain ⟨⟨t404, t405, t406, t407⟩, A50, H⟩ := H
    replace H : (if (!(t398 == t404) || (!(t399 == t405))) = true then (laws_FnRangeCmp.j0 k l0 t391 true t392 t393 t394 t395 t398 t399 t400 t401) else (laws_FnRangeCmp.j0 k l0 t391 (!(t400 == t406) || (!(t401 == t407))) t392 t393 t394 t395 t398 t399 t400 t401)) = some r := H
    have A5 := Aside0.mk A50
    clear A50
    have HC6 := Aside0.mk H
    clear H
    go_enter Try.func7, Try.ntmps7
    go_upto_region 6 with (first | ((with_reducible refine gate_callee (f := 42) rfl ?_); refine sqL (some 18) Try.func42 #[.slice A0 l0.length c0] ?_; (with_reducible refine (spec_DrawRangeCmp.calls k _ _ l0 t391 t392 t393 t394 t395 _ ?side1 ?side2 A3.out).mono ?_); (case side1 => repeat (first | exact HR0.out | (with_reducible refine Kd.C_alloc ?_ _) | (with_reducible refine Kd.C_drewN ?_ _) | (with_reducible refine Kd.C_drew ?_))); (case side2 => exact HC0.out); rintro e w7 ⟨rfl, hb⟩; refine ⟨_, rfl, ?_⟩; replace HB := sqs HB hb; (try clear hb)) | ((with_reducible refine gate_dst (N := 4) rfl ?_); refine sqx 4 #[.int .i64 0, .int .i64 0] 24 ?_; intro gb396 hg w8 hbox hb; have BK396 := Aside0.mk (hbox); have GW396 := sqg HB hg; have GE396 := sqg HB hg; replace HB := sqs HB hb; clear hb hbox hg) | ((with_reducible refine gate_dst (N := 5) rfl ?_); refine sqx 5 #[.int .i64 0, .int .i64 0] 24 ?_; intro gb397 hg w9 hbox hb; have BK397 := Aside0.mk (hbox); have GW397 := sqg HB hg; have GE397 := sqg HB hg; have NB396_397 := sqn BK396 hg; have NB397_396 := sqm BK396 hg; replace BK396 := sqb BK396 hb; replace HB := sqs HB hb; clear hb hbox hg; have hnb10 := NB396_397.out; have hnc10 := NB397_396.out; obtain ⟨hcz11_0, hcz11_1, hfz11_0, hfz11_1⟩ := sqc2 BK396; obtain ⟨hcz12_0, hcz12_1, hfz12_0, hfz12_1⟩ := sqc2 BK397) | ((with_reducible refine gate_callee (f := 43) rfl ?_); refine sqL (some 26) Try.func43 #[.int .i64 t391, .agg #[.int .i64 t392, .int .i64 t393], .agg #[.int .i64 t394, .int .i64 t395]] ?_; (with_reducible refine (impl_RangeCmp.calls k t391 t392 t393 t394 t395 t398 t399 t400 t401 _ A4.out).mono ?_); rintro e w13 ⟨rfl, hb⟩; refine ⟨_, rfl, ?_⟩; have n0_ := Aside0.mk (blk_below (g := gb396) (o := .cells #[.int .i64 t392, .int .i64 t393] 24 (0, 0)) (by refine sqt ?_; refine blk_far ?_ NB396_397.out _; refine sqt ?_; refine blk_far ?_ NB396_397.out _; refine sqt ?_; refine blk_put (cs := #[.int .i64 t392, .int .i64 0]) ?_ 1 _ rfl; refine sqt ?_; refine blk_put (cs := #[.int .i64 0, .int .i64 0]) ?_ 0 _ rfl; refine sqt ?_; exact BK396.out) hb); have n1_ := Aside0.mk (blk_below (g := gb397) (o := .cells #[.int .i64 t394, .int .i64 t395] 24 (0, 0)) (by refine sqt ?_; refine blk_put (cs := #[.int .i64 t394, .int .i64 0]) ?_ 1 _ rfl; refine sqt ?_; refine blk_put (cs := #[.int .i64 0, .int .i64 0]) ?_ 0 _ rfl; refine sqt ?_; refine blk_far ?_ NB397_396.out _; refine sqt ?_; refine blk_far ?_ NB397_396.out _; refine sqt ?_; exact BK397.out) hb); have n2_ := sqs HB hb; clear BK396; clear BK397; clear HB; have BK396 := n0_; have BK397 := n1_; have HB := n2_; clear n0_ n1_ n2_; (try clear hb)) | ((with_reducible refine gate_dst (N := 6) rfl ?_); refine sqx 6 #[.int .i64 0, .int .i64 0] 24 ?_; intro gb402 hg w14 hbox hb; have BK402 := Aside0.mk (hbox); have GW402 := sqg HB hg; have GE402 := sqg HB hg; have NB396_402 := sqn BK396 hg; have NB402_396 := sqm BK396 hg; have NB397_402 := sqn BK397 hg; have NB402_397 := sqm BK397 hg; replace BK396 := sqb BK396 hb; replace BK397 := sqb BK397 hb; replace HB := sqs HB hb; clear hb hbox hg) | ((with_reducible refine gate_dst (N := 7) rfl ?_); refine sqx 7 #[.int .i64 0, .int .i64 0] 24 ?_; intro gb403 hg w15 hbox hb; have BK403 := Aside0.mk (hbox); have GW403 := sqg HB hg; have GE403 := sqg HB hg; have NB396_403 := sqn BK396 hg; have NB403_396 := sqm BK396 hg; have NB397_403 := sqn BK397 hg; have NB403_397 := sqm BK397 hg; have NB402_403 := sqn BK402 hg; have NB403_402 := sqm BK402 hg; replace BK396 := sqb BK396 hb; replace BK397 := sqb BK397 hb; replace BK402 := sqb BK402 hb; replace HB := sqs HB hb; clear hb hbox hg; have hnb16 := NB402_396.out; have hnc16 := NB396_402.out; have hnb17 := NB402_397.out; have hnc17 := NB397_402.out; have hnb18 := NB402_403.out; have hnc18 := NB403_402.out; obtain ⟨hcz19_0, hcz19_1, hfz19_0, hfz19_1⟩ := sqc2 BK402; have hnb20 := NB403_396.out; have hnc20 := NB396_403.out; have hnb21 := NB403_397.out; have hnc21 := NB397_403.out; obtain ⟨hcz22_0, hcz22_1, hfz22_0, hfz22_1⟩ := sqc2 BK403; obtain ⟨hcz23_0, hcz23_1, hfz23_0, hfz23_1⟩ := sqc2 BK396; obtain ⟨hcz24_0, hcz24_1, hfz24_0, hfz24_1⟩ := sqc2 BK397) | ((with_reducible refine gate_callee (f := 44) rfl ?_); refine sqL (some 33) Try.func44 #[.int .i64 t391, .agg #[.int .i64 t392, .int .i64 t393], .agg #[.int .i64 t394, .int .i64 t395]] ?_; (with_reducible refine (spec_RangeCmp.calls k t391 t392 t393 t394 t395 t404 t405 t406 t407 _ A5.out).mono ?_); rintro e w25 ⟨rfl, hb⟩; refine ⟨_, rfl, ?_⟩; have n0_ := Aside0.mk (blk_below (g := gb396) (o := .cells #[.int .i64 t392, .int .i64 t393] 24 (0, 0)) (by refine sqt ?_; refine blk_far ?_ NB396_403.out _; refine sqt ?_; refine blk_far ?_ NB396_403.out _; refine sqt ?_; refine blk_far ?_ NB396_402.out _; refine sqt ?_; refine blk_far ?_ NB396_402.out _; refine sqt ?_; exact BK396.out) hb); have n1_ := Aside0.mk (blk_below (g := gb397) (o := .cells #[.int .i64 t394, .int .i64 t395] 24 (0, 0)) (by refine sqt ?_; refine blk_far ?_ NB397_403.out _; refine sqt ?_; refine blk_far ?_ NB397_403.out _; refine sqt ?_; refine blk_far ?_ NB397_402.out _; refine sqt ?_; refine blk_far ?_ NB397_402.out _; refine sqt ?_; exact BK397.out) hb); have n2_ := Aside0.mk (blk_below (g := gb402) (o := .cells #[.int .i64 t398, .int .i64 t399] 24 (0, 0)) (by refine sqt ?_; refine blk_far ?_ NB402_403.out _; refine sqt ?_; refine blk_far ?_ NB402_403.out _; refine sqt ?_; refine blk_put (cs := #[.int .i64 t398, .int .i64 0]) ?_ 1 _ rfl; refine sqt ?_; refine blk_put (cs := #[.int .i64 0, .int .i64 0]) ?_ 0 _ rfl; refine sqt ?_; exact BK402.out) hb); have n3_ := Aside0.mk (blk_below (g := gb403) (o := .cells #[.int .i64 t400, .int .i64 t401] 24 (0, 0)) (by refine sqt ?_; refine blk_put (cs := #[.int .i64 t400, .int .i64 0]) ?_ 1 _ rfl; refine sqt ?_; refine blk_put (cs := #[.int .i64 0, .int .i64 0]) ?_ 0 _ rfl; refine sqt ?_; refine blk_far ?_ NB403_402.out _; refine sqt ?_; refine blk_far ?_ NB403_402.out _; refine sqt ?_; exact BK403.out) hb); have n4_ := sqs HB hb; clear BK396; clear BK397; clear BK402; clear BK403; clear HB; have BK396 := n0_; have BK397 := n1_; have BK402 := n2_; have BK403 := n3_; have HB := n4_; clear n0_ n1_ n2_ n3_ n4_; (try clear hb)) | ((with_reducible refine gate_dst (N := 8) rfl ?_); refine sqx 8 #[.int .i64 0, .int .i64 0] 24 ?_; intro gb408 hg w26 hbox hb; have BK408 := Aside0.mk (hbox); have GW408 := sqg HB hg; have GE408 := sqg HB hg; have NB396_408 := sqn BK396 hg; have NB408_396 := sqm BK396 hg; have NB397_408 := sqn BK397 hg; have NB408_397 := sqm BK397 hg; have NB402_408 := sqn BK402 hg; have NB408_402 := sqm BK402 hg; have NB403_408 := sqn BK403 hg; have NB408_403 := sqm BK403 hg; replace BK396 := sqb BK396 hb; replace BK397 := sqb BK397 hb; replace BK402 := sqb BK402 hb; replace BK403 := sqb BK403 hb; replace HB := sqs HB hb; clear hb hbox hg) | ((with_reducible refine gate_dst (N := 9) rfl ?_); refine sqx 9 #[.int .i64 0, .int .i64 0] 24 ?_; intro gb409 hg w27 hbox hb; have BK409 := Aside0.mk (hbox); have GW409 := sqg HB hg; have GE409 := sqg HB hg; have NB396_409 := sqn BK396 hg; have NB409_396 := sqm BK396 hg; have NB397_409 := sqn BK397 hg; have NB409_397 := sqm BK397 hg; have NB402_409 := sqn BK402 hg; have NB409_402 := sqm BK402 hg; have NB403_409 := sqn BK403 hg; have NB409_403 := sqm BK403 hg; have NB408_409 := sqn BK408 hg; have NB409_408 := sqm BK408 hg; replace BK396 := sqb BK396 hb; replace BK397 := sqb BK397 hb; replace BK402 := sqb BK402 hb; replace BK403 := sqb BK403 hb; replace BK408 := sqb BK408 hb; replace HB := sqs HB hb; clear hb hbox hg; have hnb28 := NB408_396.out; have hnc28 := NB396_408.out; have hnb29 := NB408_397.out; have hnc29 := NB397_408.out; have hnb30 := NB408_402.out; have hnc30 := NB402_408.out; have hnb31 := NB408_403.out; have hnc31 := NB403_408.out; have hnb32 := NB408_409.out; have hnc32 := NB409_408.out; obtain ⟨hcz33_0, hcz33_1, hfz33_0, hfz33_1⟩ := sqc2 BK408; have hnb34 := NB409_396.out; have hnc34 := NB396_409.out; have hnb35 := NB409_397.out; have hnc35 := NB397_409.out; have hnb36 := NB409_402.out; have hnc36 := NB402_409.out; have hnb37 := NB409_403.out; have hnc37 := NB403_409.out; obtain ⟨hcz38_0, hcz38_1, hfz38_0, hfz38_1⟩ := sqc2 BK409))
    (try simp only [Act.put, List.setIfInBounds_toArray, List.set_cons_zero, List.set_cons_succ])
    go_cut [43] (fun v43 wc => ∃ (kq : Nat) (x43_5 : Bool), v43 = .bool x43_5 ∧ Aside0 (laws_FnRangeCmp.j0 kq l0 t391 x43_5 t392 t393 t394 t395 t398 t399 t400 t401 = some r) ∧ Aside0 (kq ≤ k) ∧ Aside0 (wc.heap[gb396]? = some (.cells #[.int .i64 t392, .int .i64 t393] 24 (0, 0))) ∧ Aside0 (wc.heap[gb397]? = some (.cells #[.int .i64 t394, .int .i64 t395] 24 (0, 0))) ∧ Aside0 (wc.heap[gb402]? = some (.cells #[.int .i64 t398, .int .i64 t399] 24 (0, 0))) ∧ Aside0 (wc.heap[gb403]? = some (.cells #[.int .i64 t400, .int .i64 t401] 24 (0, 0))) ∧ Aside0 (wc.heap[gb408]? = some (.cells #[.int .i64 t404, .int .i64 t405] 24 (0, 0))) ∧ Aside0 (wc.heap[gb409]? = some (.cells #[.int .i64 t406, .int .i64 t407] 24 (0, 0))) ∧ Aside0 (Below w.heap.size w wc))
    case first =>
      as_aux_lemma =>
      have H := HC6.out
      clear HC6
      by_cases c39 : (!(t398 == t404) || (!(t399 == t405))) = true
      · rw [if_pos c39] at H
        have c39b0 : (!(t398 == t404) || (!(t399 == t405))) = true := c39
        clear c39
        (first | rw [c39b0] | (simp only [i64_w, i32_w]; rw [c39b0]) | skip)
        have H' := Aside0.mk H
        clear H
        have hnb40 := NB402_396.out
        have hnc40 := NB396_402.out
        have hnb41 := NB402_397.out
        have hnc41 := NB397_402.out
        have hnb42 := NB402_403.out
        have hnc42 := NB403_402.out
        have hnb43 := NB402_408.out
        have hnc43 := NB408_402.out
        have hnb44 := NB402_409.out
        have hnc44 := NB409_402.out
        obtain ⟨hcz45_0, hcz45_1, hfz45_0, hfz45_1⟩ := sqc2 BK402
        have hnb46 := NB408_396.out
        have hnc46 := NB396_408.out
        have hnb47 := NB408_397.out
        have hnc47 := NB397_408.out
        have hnb48 := NB408_403.out
        have hnc48 := NB403_408.out
        have hnb49 := NB408_409.out
        have hnc49 := NB409_408.out
        obtain ⟨hcz50_0, hcz50_1, hfz50_0, hfz50_1⟩ := sqc2 BK408
        go_wp2
        go_meet
        case rel => exact ⟨_, (true), (by first | rfl | (simp; done) | (simp [*]; done)), H', ⟨by first | omega | exact Nat.le_refl _⟩, ⟨by refine sqt ?_; refine blk_far ?_ NB396_409.out _; refine sqt ?_; refine blk_far ?_ NB396_409.out _; refine sqt ?_; refine blk_far ?_ NB396_408.out _; refine sqt ?_; refine blk_far ?_ NB396_408.out _; refine sqt ?_; exact BK396.out⟩, ⟨by refine sqt ?_; refine blk_far ?_ NB397_409.out _; refine sqt ?_; refine blk_far ?_ NB397_409.out _; refine sqt ?_; refine blk_far ?_ NB397_408.out _; refine sqt ?_; refine blk_far ?_ NB397_408.out _; refine sqt ?_; exact BK397.out⟩, ⟨by refine sqt ?_; refine blk_far ?_ NB402_409.out _; refine sqt ?_; refine blk_far ?_ NB402_409.out _; refine sqt ?_; refine blk_far ?_ NB402_408.out _; refine sqt ?_; refine blk_far ?_ NB402_408.out _; refine sqt ?_; exact BK402.out⟩, ⟨by refine sqt ?_; refine blk_far ?_ NB403_409.out _; refine sqt ?_; refine blk_far ?_ NB403_409.out _; refine sqt ?_; refine blk_far ?_ NB403_408.out _; refine sqt ?_; refine blk_far ?_ NB403_408.out _; refine sqt ?_; exact BK403.out⟩, ⟨by refine sqt ?_; refine blk_far ?_ NB408_409.out _; refine sqt ?_; refine blk_far ?_ NB408_409.out _; refine sqt ?_; refine blk_put (cs := #[.int .i64 t404, .int .i64 0]) ?_ 1 _ rfl; refine sqt ?_; refine blk_put (cs := #[.int .i64 0, .int .i64 0]) ?_ 0 _ rfl; refine sqt ?_; exact BK408.out⟩, ⟨by refine sqt ?_; refine blk_put (cs := #[.int .i64 t406, .int .i64 0]) ?_ 1 _ rfl; refine sqt ?_; refine blk_put (cs := #[.int .i64 0, .int .i64 0]) ?_ 0 _ rfl; refine sqt ?_; refine blk_far ?_ NB409_408.out _; refine sqt ?_; refine blk_far ?_ NB409_408.out _; refine sqt ?_; exact BK409.out⟩, sqh HB⟩
      · rw [if_neg c39] at H
        have c39b0 : (!(t398 == t404) || (!(t399 == t405))) = false := by simpa using c39
        clear c39
        (first | rw [c39b0] | (simp only [i64_w, i32_w]; rw [c39b0]) | skip)
        have H' := Aside0.mk H
        clear H
        have hnb51 := NB402_396.out
        have hnc51 := NB396_402.out
        have hnb52 := NB402_397.out
        have hnc52 := NB397_402.out
        have hnb53 := NB402_403.out
        have hnc53 := NB403_402.out
        have hnb54 := NB402_408.out
        have hnc54 := NB408_402.out
        have hnb55 := NB402_409.out
        have hnc55 := NB409_402.out
        obtain ⟨hcz56_0, hcz56_1, hfz56_0, hfz56_1⟩ := sqc2 BK402
        have hnb57 := NB408_396.out
        have hnc57 := NB396_408.out
        have hnb58 := NB408_397.out
        have hnc58 := NB397_408.out
        have hnb59 := NB408_403.out
        have hnc59 := NB403_408.out
        have hnb60 := NB408_409.out
        have hnc60 := NB409_408.out
        obtain ⟨hcz61_0, hcz61_1, hfz61_0, hfz61_1⟩ := sqc2 BK408
        have hnb62 := NB403_396.out
        have hnc62 := NB396_403.out
        have hnb63 := NB403_397.out
        have hnc63 := NB397_403.out
        have hnb64 := NB403_409.out
        have hnc64 := NB409_403.out
        obtain ⟨hcz65_0, hcz65_1, hfz65_0, hfz65_1⟩ := sqc2 BK403
        have hnb66 := NB409_396.out
        have hnc66 := NB396_409.out
        have hnb67 := NB409_397.out
        have hnc67 := NB397_409.out
        obtain ⟨hcz68_0, hcz68_1, hfz68_0, hfz68_1⟩ := sqc2 BK409
        go_wp2
        go_meet
        case rel => exact ⟨_, ((!(t400 == t406) || (!(t401 == t407)))), (by first | rfl | (simp; done) | (simp [*]; done)), H', ⟨by first | omega | exact Nat.le_refl _⟩, ⟨by refine sqt ?_; refine blk_far ?_ NB396_409.out _; refine sqt ?_; refine blk_far ?_ NB396_409.out _; refine sqt ?_; refine blk_far ?_ NB396_408.out _; refine sqt ?_; refine blk_far ?_ NB396_408.out _; refine sqt ?_; exact BK396.out⟩, ⟨by refine sqt ?_; refine blk_far ?_ NB397_409.out _; refine sqt ?_; refine blk_far ?_ NB397_409.out _; refine sqt ?_; refine blk_far ?_ NB397_408.out _; refine sqt ?_; refine blk_far ?_ NB397_408.out _; refine sqt ?_; exact BK397.out⟩, ⟨by refine sqt ?_; refine blk_far ?_ NB402_409.out _; refine sqt ?_; refine blk_far ?_ NB402_409.out _; refine sqt ?_; refine blk_far ?_ NB402_408.out _; refine sqt ?_; refine blk_far ?_ NB402_408.out _; refine sqt ?_; exact BK402.out⟩, ⟨by refine sqt ?_; refine blk_far ?_ NB403_409.out _; refine sqt ?_; refine blk_far ?_ NB403_409.out _; refine sqt ?_; refine blk_far ?_ NB403_408.out _; refine sqt ?_; refine blk_far ?_ NB403_408.out _; refine sqt ?_; exact BK403.out⟩, ⟨by refine sqt ?_; refine blk_far ?_ NB408_409.out _; refine sqt ?_; refine blk_far ?_ NB408_409.out _; refine sqt ?_; refine blk_put (cs := #[.int .i64 t404, .int .i64 0]) ?_ 1 _ rfl; refine sqt ?_; refine blk_put (cs := #[.int .i64 0, .int .i64 0]) ?_ 0 _ rfl; refine sqt ?_; exact BK408.out⟩, ⟨by refine sqt ?_; refine blk_put (cs := #[.int .i64 t406, .int .i64 0]) ?_ 1 _ rfl; refine sqt ?_; refine blk_put (cs := #[.int .i64 0, .int .i64 0]) ?_ 0 _ rfl; refine sqt ?_; refine blk_far ?_ NB409_408.out _; refine sqt ?_; refine blk_far ?_ NB409_408.out _; refine sqt ?_; exact BK409.out⟩, sqh HB⟩
    case rest =>
      as_aux_lemma =>
      clear HC6
      try clear c2
      try clear c2b0
      try clear c2b1
      try clear hcz11_0
      try clear hcz11_1
      try clear hcz12_0
      try clear hcz12_1
      try clear hcz19_0
      try clear hcz19_1
      try clear hcz22_0
      try clear hcz22_1
      try clear hcz23_0
      try clear hcz23_1
      try clear hcz24_0
      try clear hcz24_1
      try clear hcz33_0
      try clear hcz33_1
      try clear hcz38_0
      try clear hcz38_1
      try clear hfz11_0
      try clear hfz11_1
      try clear hfz12_0
      try clear hfz12_1
      try clear hfz19_0
      try clear hfz19_1
      try clear hfz22_0
      try clear hfz22_1
      try clear hfz23_0
      try clear hfz23_1
      try clear hfz24_0
      try clear hfz24_1
      try clear hfz33_0
      try clear hfz33_1
      try clear hfz38_0
      try clear hfz38_1
      obtain ⟨kq, x43_5, rfl, HA, HJ5, BK396, BK397, BK402, BK403, BK408, BK409, HB⟩ := hcut
      cases kq with
      | zero => exact absurd HA.out (by simp [laws_FnRangeCmp.j0])
      | succ kj5 =>
        have H := HA.out
        clear HA
        simp only [laws_FnRangeCmp.j0] at H
        by_cases c69 : x43_5 = true
        · subst c69
          have H1 : (some false) = some r := by rw [if_pos rfl] at H; exact H
          clear H
          have H := H1
          clear H1
          obtain rfl := Option.some.inj H
          go_wp2
          go_ret
          exact sqe HB
        · replace c69 := Bool.eq_false_iff.mpr c69
          subst c69
          have H1 : ((spec_RangeOk.f t392 t393).bind fun t410 => (if t410 = true then ((spec_RangeOk.f t394 t395).bind fun t411 => (laws_FnRangeCmp.j1 kj5 l0 t391 (!t411) t392 t393 t394 t395 t398 t399 t400 t401)) else (laws_FnRangeCmp.j1 kj5 l0 t391 true t392 t393 t394 t395 t398 t399 t400 t401))) = some r := by rw [if_neg (show ¬ (false = true) by decide)] at H; exact H
          clear H
          have H := H1
          clear H1
          have HC70 := Aside0.mk H
          clear H
          go_upto_region 8 with (fail)
          go_cut [51] (fun v51 wc => ∃ (kq : Nat) (x51_69 : Bool), v51 = .bool x51_69 ∧ Aside0 (laws_FnRangeCmp.j1 kq l0 t391 x51_69 t392 t393 t394 t395 t398 t399 t400 t401 = some r) ∧ Aside0 (kq ≤ kj5) ∧ Aside0 (wc.heap[gb396]? = some (.cells #[.int .i64 t392, .int .i64 t393] 24 (0, 0))) ∧ Aside0 (wc.heap[gb397]? = some (.cells #[.int .i64 t394, .int .i64 t395] 24 (0, 0))) ∧ Aside0 (wc.heap[gb402]? = some (.cells #[.int .i64 t398, .int .i64 t399] 24 (0, 0))) ∧ Aside0 (wc.heap[gb403]? = some (.cells #[.int .i64 t400, .int .i64 t401] 24 (0, 0))) ∧ Aside0 (wc.heap[gb408]? = some (.cells #[.int .i64 t404, .int .i64 t405] 24 (0, 0))) ∧ Aside0 (wc.heap[gb409]? = some (.cells #[.int .i64 t406, .int .i64 t407] 24 (0, 0))) ∧ Aside0 (Below w.heap.size w wc))
          case first =>
            as_aux_lemma =>
            have H := HC70.out
            clear HC70
            replace H := Option.bind_eq_some_iff.mp H
            obtain ⟨t410, A710, H⟩ := H
            replace H : (if t410 = true then ((spec_RangeOk.f t394 t395).bind fun t411 => (laws_FnRangeCmp.j1 kj5 l0 t391 (!t411) t392 t393 t394 t395 t398 t399 t400 t401)) else (laws_FnRangeCmp.j1 kj5 l0 t391 true t392 t393 t394 t395 t398 t399 t400 t401)) = some r := H
            have A71 := Aside0.mk A710
            clear A710
            by_cases c72 : t410 = true
            · subst c72
              have H1 : ((spec_RangeOk.f t394 t395).bind fun t411 => (laws_FnRangeCmp.j1 kj5 l0 t391 (!t411) t392 t393 t394 t395 t398 t399 t400 t401)) = some r := by rw [if_pos rfl] at H; exact H
              clear H
              have H := H1
              clear H1
              replace H := Option.bind_eq_some_iff.mp H
              obtain ⟨t411, A730, H⟩ := H
              replace H : (laws_FnRangeCmp.j1 kj5 l0 t391 (!t411) t392 t393 t394 t395 t398 t399 t400 t401) = some r := H
              have A73 := Aside0.mk A730
              clear A730
              have H' := Aside0.mk H
              clear H
              have hnb74 := NB396_397.out
              have hnc74 := NB397_396.out
              have hnb75 := NB396_402.out
              have hnc75 := NB402_396.out
              have hnb76 := NB396_403.out
              have hnc76 := NB403_396.out
              have hnb77 := NB396_408.out
              have hnc77 := NB408_396.out
              have hnb78 := NB396_409.out
              have hnc78 := NB409_396.out
              obtain ⟨hcz79_0, hcz79_1, hfz79_0, hfz79_1⟩ := sqc2 BK396
              go_wp2_with (first | ((with_reducible refine gate_callee (f := 45) rfl ?_); refine sqL (some 45) Try.func45 #[.agg #[.int .i64 t392, .int .i64 t393]] ?_; (with_reducible refine (spec_RangeOk.calls t392 t393 true _ A71.out).mono ?_); rintro e w80 ⟨rfl, hb⟩; refine ⟨_, rfl, ?_⟩; replace BK396 := sqb BK396 hb; replace BK397 := sqb BK397 hb; replace BK402 := sqb BK402 hb; replace BK403 := sqb BK403 hb; replace BK408 := sqb BK408 hb; replace BK409 := sqb BK409 hb; replace HB := sqs HB hb; (try clear hb); have hnb81 := NB397_402.out; have hnc81 := NB402_397.out; have hnb82 := NB397_403.out; have hnc82 := NB403_397.out; have hnb83 := NB397_408.out; have hnc83 := NB408_397.out; have hnb84 := NB397_409.out; have hnc84 := NB409_397.out; obtain ⟨hcz85_0, hcz85_1, hfz85_0, hfz85_1⟩ := sqc2 BK397) | (go_at_call 45; (with_reducible refine (spec_RangeOk.calls t394 t395 t411 _ A73.out).mono ?_); rintro e w86 ⟨rfl, hb⟩; replace BK396 := sqb BK396 hb; replace BK397 := sqb BK397 hb; replace BK402 := sqb BK402 hb; replace BK403 := sqb BK403 hb; replace BK408 := sqb BK408 hb; replace BK409 := sqb BK409 hb; replace HB := sqs HB hb; (try clear hb)))
              go_meet
              case rel => exact ⟨_, (!t411), (by first | rfl | (simp; done) | (simp [*]; done)), H', ⟨by have := HJ5.out; first | omega | exact Nat.le_refl _⟩, sqk BK396, sqk BK397, sqk BK402, sqk BK403, sqk BK408, sqk BK409, sqh HB⟩
            · replace c72 := Bool.eq_false_iff.mpr c72
              subst c72
              have H1 : (laws_FnRangeCmp.j1 kj5 l0 t391 true t392 t393 t394 t395 t398 t399 t400 t401) = some r := by rw [if_neg (show ¬ (false = true) by decide)] at H; exact H
              clear H
              have H := H1
              clear H1
              have H' := Aside0.mk H
              clear H
              have hnb87 := NB396_397.out
              have hnc87 := NB397_396.out
              have hnb88 := NB396_402.out
              have hnc88 := NB402_396.out
              have hnb89 := NB396_403.out
              have hnc89 := NB403_396.out
              have hnb90 := NB396_408.out
              have hnc90 := NB408_396.out
              have hnb91 := NB396_409.out
              have hnc91 := NB409_396.out
              obtain ⟨hcz92_0, hcz92_1, hfz92_0, hfz92_1⟩ := sqc2 BK396
              go_wp2_with (first | ((with_reducible refine gate_callee (f := 45) rfl ?_); refine sqL (some 45) Try.func45 #[.agg #[.int .i64 t392, .int .i64 t393]] ?_; (with_reducible refine (spec_RangeOk.calls t392 t393 false _ A71.out).mono ?_); rintro e w93 ⟨rfl, hb⟩; refine ⟨_, rfl, ?_⟩; replace BK396 := sqb BK396 hb; replace BK397 := sqb BK397 hb; replace BK402 := sqb BK402 hb; replace BK403 := sqb BK403 hb; replace BK408 := sqb BK408 hb; replace BK409 := sqb BK409 hb; replace HB := sqs HB hb; (try clear hb)))
              go_meet
              case rel => exact ⟨_, (true), (by first | rfl | (simp; done) | (simp [*]; done)), H', ⟨by have := HJ5.out; first | omega | exact Nat.le_refl _⟩, sqk BK396, sqk BK397, sqk BK402, sqk BK403, sqk BK408, sqk BK409, sqh HB⟩
          case rest =>
            as_aux_lemma =>
            clear HC70
            try clear c2
            try clear c2b0
            try clear c2b1
            try clear c39
            try clear c39b0
            try clear c69
            try clear hcz11_0
            try clear hcz11_1
            try clear hcz12_0
            try clear hcz12_1
            try clear hcz19_0
            try clear hcz19_1
            try clear hcz22_0
            try clear hcz22_1
            try clear hcz23_0
            try clear hcz23_1
            try clear hcz24_0
            try clear hcz24_1
            try clear hcz33_0
            try clear hcz33_1
            try clear hcz38_0
            try clear hcz38_1
            try clear hcz45_0
            try clear hcz45_1
            try clear hcz50_0
            try clear hcz50_1
            try clear hcz56_0
            try clear hcz56_1
            try clear hcz61_0
            try clear hcz61_1
            try clear hcz65_0
            try clear hcz65_1
            try clear hcz68_0
            try clear hcz68_1
            try clear hfz11_0
            try clear hfz11_1
            try clear hfz12_0
            try clear hfz12_1
            try clear hfz19_0
            try clear hfz19_1
            try clear hfz22_0
            try clear hfz22_1
            try clear hfz23_0
            try clear hfz23_1
            try clear hfz24_0
            try clear hfz24_1
            try clear hfz33_0
            try clear hfz33_1
            try clear hfz38_0
            try clear hfz38_1
            try clear hfz45_0
            try clear hfz45_1
            try clear hfz50_0
            try clear hfz50_1
            try clear hfz56_0
            try clear hfz56_1
            try clear hfz61_0
            try clear hfz61_1
            try clear hfz65_0
            try clear hfz65_1
            try clear hfz68_0
            try clear hfz68_1
            obtain ⟨kq, x51_69, rfl, HA, HJ69, BK396, BK397, BK402, BK403, BK408, BK409, HB⟩ := hcut
            cases kq with
            | zero => exact absurd HA.out (by simp [laws_FnRangeCmp.j1])
            | succ kj69 =>
              have H := HA.out
              clear HA
              simp only [laws_FnRangeCmp.j1] at H
              by_cases c94 : x51_69 = true
              · subst c94
                have H1 : (some (decide (t398 > t399))) = some r := by rw [if_pos rfl] at H; exact H
                clear H
                have H := H1
                clear H1
                obtain rfl := Option.some.inj H
                have hnb95 := NB402_396.out
                have hnc95 := NB396_402.out
                have hnb96 := NB402_397.out
                have hnc96 := NB397_402.out
                have hnb97 := NB402_403.out
                have hnc97 := NB403_402.out
                have hnb98 := NB402_408.out
                have hnc98 := NB408_402.out
                have hnb99 := NB402_409.out
                have hnc99 := NB409_402.out
                obtain ⟨hcz100_0, hcz100_1, hfz100_0, hfz100_1⟩ := sqc2 BK402
                go_wp2
                go_ret
                exact sqe HB
              · replace c94 := Bool.eq_false_iff.mpr c94
                subst c94
                have H1 : ((impl_RangeIn.f t398 t399 t392 t393).bind fun t412 => (if t412 = true then ((impl_RangeIn.f t400 t401 t394 t395).bind fun t413 => (if t413 = true then (laws_FnRangeCmp.j2 kj69 l0 t391 ((decide (t398 > t399)) != (decide (t400 > t401))) t392 t393 t394 t395 t398 t399 t400 t401) else (laws_FnRangeCmp.j2 kj69 l0 t391 true t392 t393 t394 t395 t398 t399 t400 t401))) else (laws_FnRangeCmp.j2 kj69 l0 t391 true t392 t393 t394 t395 t398 t399 t400 t401))) = some r := by rw [if_neg (show ¬ (false = true) by decide)] at H; exact H
                clear H
                have H := H1
                clear H1
                have HC101 := Aside0.mk H
                clear H
                go_upto_region 10 with (fail)
                go_cut [79] (fun v79 wc => ∃ (kq : Nat) (x79_100 : Bool), v79 = .bool x79_100 ∧ Aside0 (laws_FnRangeCmp.j2 kq l0 t391 x79_100 t392 t393 t394 t395 t398 t399 t400 t401 = some r) ∧ Aside0 (kq ≤ kj69) ∧ Aside0 (wc.heap[gb396]? = some (.cells #[.int .i64 t392, .int .i64 t393] 24 (0, 0))) ∧ Aside0 (wc.heap[gb397]? = some (.cells #[.int .i64 t394, .int .i64 t395] 24 (0, 0))) ∧ Aside0 (wc.heap[gb402]? = some (.cells #[.int .i64 t398, .int .i64 t399] 24 (0, 0))) ∧ Aside0 (wc.heap[gb403]? = some (.cells #[.int .i64 t400, .int .i64 t401] 24 (0, 0))) ∧ Aside0 (wc.heap[gb408]? = some (.cells #[.int .i64 t404, .int .i64 t405] 24 (0, 0))) ∧ Aside0 (wc.heap[gb409]? = some (.cells #[.int .i64 t406, .int .i64 t407] 24 (0, 0))) ∧ Aside0 (Below w.heap.size w wc))
                case first =>
                  as_aux_lemma =>
                  have H := HC101.out
                  clear HC101
                  replace H := Option.bind_eq_some_iff.mp H
                  obtain ⟨t412, A1020, H⟩ := H
                  replace H : (if t412 = true then ((impl_RangeIn.f t400 t401 t394 t395).bind fun t413 => (if t413 = true then (laws_FnRangeCmp.j2 kj69 l0 t391 ((decide (t398 > t399)) != (decide (t400 > t401))) t392 t393 t394 t395 t398 t399 t400 t401) else (laws_FnRangeCmp.j2 kj69 l0 t391 true t392 t393 t394 t395 t398 t399 t400 t401))) else (laws_FnRangeCmp.j2 kj69 l0 t391 true t392 t393 t394 t395 t398 t399 t400 t401)) = some r := H
                  have A102 := Aside0.mk A1020
                  clear A1020
                  by_cases c103 : t412 = true
                  · subst c103
                    have H1 : ((impl_RangeIn.f t400 t401 t394 t395).bind fun t413 => (if t413 = true then (laws_FnRangeCmp.j2 kj69 l0 t391 ((decide (t398 > t399)) != (decide (t400 > t401))) t392 t393 t394 t395 t398 t399 t400 t401) else (laws_FnRangeCmp.j2 kj69 l0 t391 true t392 t393 t394 t395 t398 t399 t400 t401))) = some r := by rw [if_pos rfl] at H; exact H
                    clear H
                    have H := H1
                    clear H1
                    replace H := Option.bind_eq_some_iff.mp H
                    obtain ⟨t413, A1040, H⟩ := H
                    replace H : (if t413 = true then (laws_FnRangeCmp.j2 kj69 l0 t391 ((decide (t398 > t399)) != (decide (t400 > t401))) t392 t393 t394 t395 t398 t399 t400 t401) else (laws_FnRangeCmp.j2 kj69 l0 t391 true t392 t393 t394 t395 t398 t399 t400 t401)) = some r := H
                    have A104 := Aside0.mk A1040
                    clear A1040
                    by_cases c105 : t413 = true
                    · subst c105
                      have H1 : (laws_FnRangeCmp.j2 kj69 l0 t391 ((decide (t398 > t399)) != (decide (t400 > t401))) t392 t393 t394 t395 t398 t399 t400 t401) = some r := by rw [if_pos rfl] at H; exact H
                      clear H
                      have H := H1
                      clear H1
                      have H' := Aside0.mk H
                      clear H
                      have hnb106 := NB402_396.out
                      have hnc106 := NB396_402.out
                      have hnb107 := NB402_397.out
                      have hnc107 := NB397_402.out
                      have hnb108 := NB402_403.out
                      have hnc108 := NB403_402.out
                      have hnb109 := NB402_408.out
                      have hnc109 := NB408_402.out
                      have hnb110 := NB402_409.out
                      have hnc110 := NB409_402.out
                      obtain ⟨hcz111_0, hcz111_1, hfz111_0, hfz111_1⟩ := sqc2 BK402
                      have hnb112 := NB396_397.out
                      have hnc112 := NB397_396.out
                      have hnb113 := NB396_403.out
                      have hnc113 := NB403_396.out
                      have hnb114 := NB396_408.out
                      have hnc114 := NB408_396.out
                      have hnb115 := NB396_409.out
                      have hnc115 := NB409_396.out
                      obtain ⟨hcz116_0, hcz116_1, hfz116_0, hfz116_1⟩ := sqc2 BK396
                      go_wp2_with (first | ((with_reducible refine gate_callee (f := 46) rfl ?_); refine sqL (some 59) Try.func46 #[.agg #[.int .i64 t398, .int .i64 t399], .agg #[.int .i64 t392, .int .i64 t393]] ?_; (with_reducible refine (impl_RangeIn.calls t398 t399 t392 t393 true _ A102.out).mono ?_); rintro e w117 ⟨rfl, hb⟩; refine ⟨_, rfl, ?_⟩; replace BK396 := sqb BK396 hb; replace BK397 := sqb BK397 hb; replace BK402 := sqb BK402 hb; replace BK403 := sqb BK403 hb; replace BK408 := sqb BK408 hb; replace BK409 := sqb BK409 hb; replace HB := sqs HB hb; (try clear hb); have hnb118 := NB403_397.out; have hnc118 := NB397_403.out; have hnb119 := NB403_408.out; have hnc119 := NB408_403.out; have hnb120 := NB403_409.out; have hnc120 := NB409_403.out; obtain ⟨hcz121_0, hcz121_1, hfz121_0, hfz121_1⟩ := sqc2 BK403; have hnb122 := NB397_408.out; have hnc122 := NB408_397.out; have hnb123 := NB397_409.out; have hnc123 := NB409_397.out; obtain ⟨hcz124_0, hcz124_1, hfz124_0, hfz124_1⟩ := sqc2 BK397) | (go_at_call 46; (with_reducible refine (impl_RangeIn.calls t400 t401 t394 t395 true _ A104.out).mono ?_); rintro e w125 ⟨rfl, hb⟩; replace BK396 := sqb BK396 hb; replace BK397 := sqb BK397 hb; replace BK402 := sqb BK402 hb; replace BK403 := sqb BK403 hb; replace BK408 := sqb BK408 hb; replace BK409 := sqb BK409 hb; replace HB := sqs HB hb; (try clear hb); obtain ⟨hcz126_0, hcz126_1, hfz126_0, hfz126_1⟩ := sqc2 BK402; obtain ⟨hcz127_0, hcz127_1, hfz127_0, hfz127_1⟩ := sqc2 BK403))
                      go_meet
                      case rel => exact ⟨_, (((decide (t398 > t399)) != (decide (t400 > t401)))), (by first | rfl | (simp; done) | (simp [*]; done)), H', ⟨by have := HJ5.out; have := HJ69.out; first | omega | exact Nat.le_refl _⟩, sqk BK396, sqk BK397, sqk BK402, sqk BK403, sqk BK408, sqk BK409, sqh HB⟩
                    · replace c105 := Bool.eq_false_iff.mpr c105
                      subst c105
                      have H1 : (laws_FnRangeCmp.j2 kj69 l0 t391 true t392 t393 t394 t395 t398 t399 t400 t401) = some r := by rw [if_neg (show ¬ (false = true) by decide)] at H; exact H
                      clear H
                      have H := H1
                      clear H1
                      have H' := Aside0.mk H
                      clear H
                      have hnb128 := NB402_396.out
                      have hnc128 := NB396_402.out
                      have hnb129 := NB402_397.out
                      have hnc129 := NB397_402.out
                      have hnb130 := NB402_403.out
                      have hnc130 := NB403_402.out
                      have hnb131 := NB402_408.out
                      have hnc131 := NB408_402.out
                      have hnb132 := NB402_409.out
                      have hnc132 := NB409_402.out
                      obtain ⟨hcz133_0, hcz133_1, hfz133_0, hfz133_1⟩ := sqc2 BK402
                      have hnb134 := NB396_397.out
                      have hnc134 := NB397_396.out
                      have hnb135 := NB396_403.out
                      have hnc135 := NB403_396.out
                      have hnb136 := NB396_408.out
                      have hnc136 := NB408_396.out
                      have hnb137 := NB396_409.out
                      have hnc137 := NB409_396.out
                      obtain ⟨hcz138_0, hcz138_1, hfz138_0, hfz138_1⟩ := sqc2 BK396
                      go_wp2_with (first | ((with_reducible refine gate_callee (f := 46) rfl ?_); refine sqL (some 59) Try.func46 #[.agg #[.int .i64 t398, .int .i64 t399], .agg #[.int .i64 t392, .int .i64 t393]] ?_; (with_reducible refine (impl_RangeIn.calls t398 t399 t392 t393 true _ A102.out).mono ?_); rintro e w139 ⟨rfl, hb⟩; refine ⟨_, rfl, ?_⟩; replace BK396 := sqb BK396 hb; replace BK397 := sqb BK397 hb; replace BK402 := sqb BK402 hb; replace BK403 := sqb BK403 hb; replace BK408 := sqb BK408 hb; replace BK409 := sqb BK409 hb; replace HB := sqs HB hb; (try clear hb); have hnb140 := NB403_397.out; have hnc140 := NB397_403.out; have hnb141 := NB403_408.out; have hnc141 := NB408_403.out; have hnb142 := NB403_409.out; have hnc142 := NB409_403.out; obtain ⟨hcz143_0, hcz143_1, hfz143_0, hfz143_1⟩ := sqc2 BK403; have hnb144 := NB397_408.out; have hnc144 := NB408_397.out; have hnb145 := NB397_409.out; have hnc145 := NB409_397.out; obtain ⟨hcz146_0, hcz146_1, hfz146_0, hfz146_1⟩ := sqc2 BK397) | (go_at_call 46; (with_reducible refine (impl_RangeIn.calls t400 t401 t394 t395 false _ A104.out).mono ?_); rintro e w147 ⟨rfl, hb⟩; replace BK396 := sqb BK396 hb; replace BK397 := sqb BK397 hb; replace BK402 := sqb BK402 hb; replace BK403 := sqb BK403 hb; replace BK408 := sqb BK408 hb; replace BK409 := sqb BK409 hb; replace HB := sqs HB hb; (try clear hb)))
                      go_meet
                      case rel => exact ⟨_, (true), (by first | rfl | (simp; done) | (simp [*]; done)), H', ⟨by have := HJ5.out; have := HJ69.out; first | omega | exact Nat.le_refl _⟩, sqk BK396, sqk BK397, sqk BK402, sqk BK403, sqk BK408, sqk BK409, sqh HB⟩
                  · replace c103 := Bool.eq_false_iff.mpr c103
                    subst c103
                    have H1 : (laws_FnRangeCmp.j2 kj69 l0 t391 true t392 t393 t394 t395 t398 t399 t400 t401) = some r := by rw [if_neg (show ¬ (false = true) by decide)] at H; exact H
                    clear H
                    have H := H1
                    clear H1
                    have H' := Aside0.mk H
                    clear H
                    have hnb148 := NB402_396.out
                    have hnc148 := NB396_402.out
                    have hnb149 := NB402_397.out
                    have hnc149 := NB397_402.out
                    have hnb150 := NB402_403.out
                    have hnc150 := NB403_402.out
                    have hnb151 := NB402_408.out
                    have hnc151 := NB408_402.out
                    have hnb152 := NB402_409.out
                    have hnc152 := NB409_402.out
                    obtain ⟨hcz153_0, hcz153_1, hfz153_0, hfz153_1⟩ := sqc2 BK402
                    have hnb154 := NB396_397.out
                    have hnc154 := NB397_396.out
                    have hnb155 := NB396_403.out
                    have hnc155 := NB403_396.out
                    have hnb156 := NB396_408.out
                    have hnc156 := NB408_396.out
                    have hnb157 := NB396_409.out
                    have hnc157 := NB409_396.out
                    obtain ⟨hcz158_0, hcz158_1, hfz158_0, hfz158_1⟩ := sqc2 BK396
                    go_wp2_with (first | ((with_reducible refine gate_callee (f := 46) rfl ?_); refine sqL (some 59) Try.func46 #[.agg #[.int .i64 t398, .int .i64 t399], .agg #[.int .i64 t392, .int .i64 t393]] ?_; (with_reducible refine (impl_RangeIn.calls t398 t399 t392 t393 false _ A102.out).mono ?_); rintro e w159 ⟨rfl, hb⟩; refine ⟨_, rfl, ?_⟩; replace BK396 := sqb BK396 hb; replace BK397 := sqb BK397 hb; replace BK402 := sqb BK402 hb; replace BK403 := sqb BK403 hb; replace BK408 := sqb BK408 hb; replace BK409 := sqb BK409 hb; replace HB := sqs HB hb; (try clear hb)))
                    go_meet
                    case rel => exact ⟨_, (true), (by first | rfl | (simp; done) | (simp [*]; done)), H', ⟨by have := HJ5.out; have := HJ69.out; first | omega | exact Nat.le_refl _⟩, sqk BK396, sqk BK397, sqk BK402, sqk BK403, sqk BK408, sqk BK409, sqh HB⟩
                case rest =>
                  as_aux_lemma =>
                  clear HC101
                  try clear c2
                  try clear c2b0
                  try clear c2b1
                  try clear c39
                  try clear c39b0
                  try clear c69
                  try clear c72
                  try clear c94
                  try clear hcz100_0
                  try clear hcz100_1
                  try clear hcz11_0
                  try clear hcz11_1
                  try clear hcz12_0
                  try clear hcz12_1
                  try clear hcz19_0
                  try clear hcz19_1
                  try clear hcz22_0
                  try clear hcz22_1
                  try clear hcz23_0
                  try clear hcz23_1
                  try clear hcz24_0
                  try clear hcz24_1
                  try clear hcz33_0
                  try clear hcz33_1
                  try clear hcz38_0
                  try clear hcz38_1
                  try clear hcz45_0
                  try clear hcz45_1
                  try clear hcz50_0
                  try clear hcz50_1
                  try clear hcz56_0
                  try clear hcz56_1
                  try clear hcz61_0
                  try clear hcz61_1
                  try clear hcz65_0
                  try clear hcz65_1
                  try clear hcz68_0
                  try clear hcz68_1
                  try clear hcz79_0
                  try clear hcz79_1
                  try clear hcz85_0
                  try clear hcz85_1
                  try clear hcz92_0
                  try clear hcz92_1
                  try clear hfz100_0
                  try clear hfz100_1
                  try clear hfz11_0
                  try clear hfz11_1
                  try clear hfz12_0
                  try clear hfz12_1
                  try clear hfz19_0
                  try clear hfz19_1
                  try clear hfz22_0
                  try clear hfz22_1
                  try clear hfz23_0
                  try clear hfz23_1
                  try clear hfz24_0
                  try clear hfz24_1
                  try clear hfz33_0
                  try clear hfz33_1
                  try clear hfz38_0
                  try clear hfz38_1
                  try clear hfz45_0
                  try clear hfz45_1
                  try clear hfz50_0
                  try clear hfz50_1
                  try clear hfz56_0
                  try clear hfz56_1
                  try clear hfz61_0
                  try clear hfz61_1
                  try clear hfz65_0
                  try clear hfz65_1
                  try clear hfz68_0
                  try clear hfz68_1
                  try clear hfz79_0
                  try clear hfz79_1
                  try clear hfz85_0
                  try clear hfz85_1
                  try clear hfz92_0
                  try clear hfz92_1
                  obtain ⟨kq, x79_100, rfl, HA, HJ100, BK396, BK397, BK402, BK403, BK408, BK409, HB⟩ := hcut
                  cases kq with
                  | zero => exact absurd HA.out (by simp [laws_FnRangeCmp.j2])
                  | succ kj100 =>
                    have H := HA.out
                    clear HA
                    simp only [laws_FnRangeCmp.j2] at H
                    by_cases c160 : x79_100 = true
                    · subst c160
                      have H1 : (some false) = some r := by rw [if_pos rfl] at H; exact H
                      clear H
                      have H := H1
                      clear H1
                      obtain rfl := Option.some.inj H
                      go_wp2
                      go_ret
                      exact sqe HB
                    · replace c160 := Bool.eq_false_iff.mpr c160
                      subst c160
                      have H1 : (if t392 > t393 then (laws_FnRangeCmp.j3 kj100 l0 t391 true t392 t393 t394 t395 t398 t399 t400 t401) else (laws_FnRangeCmp.j3 kj100 l0 t391 (decide (t394 > t395)) t392 t393 t394 t395 t398 t399 t400 t401)) = some r := by rw [if_neg (show ¬ (false = true) by decide)] at H; exact H
                      clear H
                      have H := H1
                      clear H1
                      have HC161 := Aside0.mk H
                      clear H
                      go_upto_region 12 with (fail)
                      go_cut [91] (fun v91 wc => ∃ (kq : Nat) (x91_160 : Bool), v91 = .bool x91_160 ∧ Aside0 (laws_FnRangeCmp.j3 kq l0 t391 x91_160 t392 t393 t394 t395 t398 t399 t400 t401 = some r) ∧ Aside0 (kq ≤ kj100) ∧ Aside0 (wc.heap[gb396]? = some (.cells #[.int .i64 t392, .int .i64 t393] 24 (0, 0))) ∧ Aside0 (wc.heap[gb397]? = some (.cells #[.int .i64 t394, .int .i64 t395] 24 (0, 0))) ∧ Aside0 (wc.heap[gb402]? = some (.cells #[.int .i64 t398, .int .i64 t399] 24 (0, 0))) ∧ Aside0 (wc.heap[gb403]? = some (.cells #[.int .i64 t400, .int .i64 t401] 24 (0, 0))) ∧ Aside0 (wc.heap[gb408]? = some (.cells #[.int .i64 t404, .int .i64 t405] 24 (0, 0))) ∧ Aside0 (wc.heap[gb409]? = some (.cells #[.int .i64 t406, .int .i64 t407] 24 (0, 0))) ∧ Aside0 (Below w.heap.size w wc))
                      case first =>
                        as_aux_lemma =>
                        have H := HC161.out
                        clear HC161
                        by_cases c162 : t392 > t393
                        · rw [if_pos c162] at H
                          have c162b0 : decide (t393 < t392) = true := decide_eq_true c162
                          clear c162
                          (first | rw [c162b0] | (simp only [i64_w, i32_w]; rw [c162b0]) | skip)
                          have H' := Aside0.mk H
                          clear H
                          have hnb163 := NB396_397.out
                          have hnc163 := NB397_396.out
                          have hnb164 := NB396_402.out
                          have hnc164 := NB402_396.out
                          have hnb165 := NB396_403.out
                          have hnc165 := NB403_396.out
                          have hnb166 := NB396_408.out
                          have hnc166 := NB408_396.out
                          have hnb167 := NB396_409.out
                          have hnc167 := NB409_396.out
                          obtain ⟨hcz168_0, hcz168_1, hfz168_0, hfz168_1⟩ := sqc2 BK396
                          go_wp2
                          go_meet
                          case rel => exact ⟨_, (true), (by first | rfl | (simp; done) | (simp [*]; done)), H', ⟨by have := HJ5.out; have := HJ69.out; have := HJ100.out; first | omega | exact Nat.le_refl _⟩, sqk BK396, sqk BK397, sqk BK402, sqk BK403, sqk BK408, sqk BK409, sqh HB⟩
                        · rw [if_neg c162] at H
                          have c162b0 : decide (t393 < t392) = false := decide_eq_false c162
                          clear c162
                          (first | rw [c162b0] | (simp only [i64_w, i32_w]; rw [c162b0]) | skip)
                          have H' := Aside0.mk H
                          clear H
                          have hnb169 := NB396_397.out
                          have hnc169 := NB397_396.out
                          have hnb170 := NB396_402.out
                          have hnc170 := NB402_396.out
                          have hnb171 := NB396_403.out
                          have hnc171 := NB403_396.out
                          have hnb172 := NB396_408.out
                          have hnc172 := NB408_396.out
                          have hnb173 := NB396_409.out
                          have hnc173 := NB409_396.out
                          obtain ⟨hcz174_0, hcz174_1, hfz174_0, hfz174_1⟩ := sqc2 BK396
                          have hnb175 := NB397_402.out
                          have hnc175 := NB402_397.out
                          have hnb176 := NB397_403.out
                          have hnc176 := NB403_397.out
                          have hnb177 := NB397_408.out
                          have hnc177 := NB408_397.out
                          have hnb178 := NB397_409.out
                          have hnc178 := NB409_397.out
                          obtain ⟨hcz179_0, hcz179_1, hfz179_0, hfz179_1⟩ := sqc2 BK397
                          go_wp2
                          go_meet
                          case rel => exact ⟨_, (decide (t394 > t395)), (by first | rfl | (simp; done) | (simp [*]; done)), H', ⟨by have := HJ5.out; have := HJ69.out; have := HJ100.out; first | omega | exact Nat.le_refl _⟩, sqk BK396, sqk BK397, sqk BK402, sqk BK403, sqk BK408, sqk BK409, sqh HB⟩
                      case rest =>
                        as_aux_lemma =>
                        clear HC161
                        try clear c2
                        try clear c2b0
                        try clear c2b1
                        try clear c39
                        try clear c39b0
                        try clear c69
                        try clear c72
                        try clear c94
                        try clear c103
                        try clear c105
                        try clear c160
                        try clear hcz100_0
                        try clear hcz100_1
                        try clear hcz111_0
                        try clear hcz111_1
                        try clear hcz116_0
                        try clear hcz116_1
                        try clear hcz11_0
                        try clear hcz11_1
                        try clear hcz121_0
                        try clear hcz121_1
                        try clear hcz124_0
                        try clear hcz124_1
                        try clear hcz126_0
                        try clear hcz126_1
                        try clear hcz127_0
                        try clear hcz127_1
                        try clear hcz12_0
                        try clear hcz12_1
                        try clear hcz133_0
                        try clear hcz133_1
                        try clear hcz138_0
                        try clear hcz138_1
                        try clear hcz143_0
                        try clear hcz143_1
                        try clear hcz146_0
                        try clear hcz146_1
                        try clear hcz153_0
                        try clear hcz153_1
                        try clear hcz158_0
                        try clear hcz158_1
                        try clear hcz19_0
                        try clear hcz19_1
                        try clear hcz22_0
                        try clear hcz22_1
                        try clear hcz23_0
                        try clear hcz23_1
                        try clear hcz24_0
                        try clear hcz24_1
                        try clear hcz33_0
                        try clear hcz33_1
                        try clear hcz38_0
                        try clear hcz38_1
                        try clear hcz45_0
                        try clear hcz45_1
                        try clear hcz50_0
                        try clear hcz50_1
                        try clear hcz56_0
                        try clear hcz56_1
                        try clear hcz61_0
                        try clear hcz61_1
                        try clear hcz65_0
                        try clear hcz65_1
                        try clear hcz68_0
                        try clear hcz68_1
                        try clear hcz79_0
                        try clear hcz79_1
                        try clear hcz85_0
                        try clear hcz85_1
                        try clear hcz92_0
                        try clear hcz92_1
                        try clear hfz100_0
                        try clear hfz100_1
                        try clear hfz111_0
                        try clear hfz111_1
                        try clear hfz116_0
                        try clear hfz116_1
                        try clear hfz11_0
                        try clear hfz11_1
                        try clear hfz121_0
                        try clear hfz121_1
                        try clear hfz124_0
                        try clear hfz124_1
                        try clear hfz126_0
                        try clear hfz126_1
                        try clear hfz127_0
                        try clear hfz127_1
                        try clear hfz12_0
                        try clear hfz12_1
                        try clear hfz133_0
                        try clear hfz133_1
                        try clear hfz138_0
                        try clear hfz138_1
                        try clear hfz143_0
                        try clear hfz143_1
                        try clear hfz146_0
                        try clear hfz146_1
                        try clear hfz153_0
                        try clear hfz153_1
                        try clear hfz158_0
                        try clear hfz158_1
                        try clear hfz19_0
                        try clear hfz19_1
                        try clear hfz22_0
                        try clear hfz22_1
                        try clear hfz23_0
                        try clear hfz23_1
                        try clear hfz24_0
                        try clear hfz24_1
                        try clear hfz33_0
                        try clear hfz33_1
                        try clear hfz38_0
                        try clear hfz38_1
                        try clear hfz45_0
                        try clear hfz45_1
                        try clear hfz50_0
                        try clear hfz50_1
                        try clear hfz56_0
                        try clear hfz56_1
                        try clear hfz61_0
                        try clear hfz61_1
                        try clear hfz65_0
                        try clear hfz65_1
                        try clear hfz68_0
                        try clear hfz68_1
                        try clear hfz79_0
                        try clear hfz79_1
                        try clear hfz85_0
                        try clear hfz85_1
                        try clear hfz92_0
                        try clear hfz92_1
                        obtain ⟨kq, x91_160, rfl, HA, HJ160, BK396, BK397, BK402, BK403, BK408, BK409, HB⟩ := hcut
                        cases kq with
                        | zero => exact absurd HA.out (by simp [laws_FnRangeCmp.j3])
                        | succ kj160 =>
                          have H := HA.out
                          clear HA
                          simp only [laws_FnRangeCmp.j3] at H
                          by_cases c180 : x91_160 = true
                          · subst c180
                            have H1 : (some true) = some r := by rw [if_pos rfl] at H; exact H
                            clear H
                            have H := H1
                            clear H1
                            obtain rfl := Option.some.inj H
                            go_wp2
                            go_ret
                            exact sqe HB
                          · replace c180 := Bool.eq_false_iff.mpr c180
                            subst c180
                            have H1 : (laws_FnRangeCmp.l0 kj160 l0 t391 0 t392 t393 t394 t395 t398 t399 t400 t401) = some r := by rw [if_neg (show ¬ (false = true) by decide)] at H; exact H
                            clear H
                            have H := H1
                            clear H1
                            have H' := Aside0.mk H
                            clear H
                            go_wp2
                            go_loopg [10] kj160 (fun kq v10 w' => ∃ (x10_5 : Int), v10 = .int .i64 x10_5 ∧ Aside0 (laws_FnRangeCmp.l0 kq l0 t391 x10_5 t392 t393 t394 t395 t398 t399 t400 t401 = some r) ∧ Aside0 (kq ≤ kj160) ∧ Aside0 (w'.heap[gb396]? = some (.cells #[.int .i64 t392, .int .i64 t393] 24 (0, 0))) ∧ Aside0 (w'.heap[gb397]? = some (.cells #[.int .i64 t394, .int .i64 t395] 24 (0, 0))) ∧ Aside0 (w'.heap[gb402]? = some (.cells #[.int .i64 t398, .int .i64 t399] 24 (0, 0))) ∧ Aside0 (w'.heap[gb403]? = some (.cells #[.int .i64 t400, .int .i64 t401] 24 (0, 0))) ∧ Aside0 (w'.heap[gb408]? = some (.cells #[.int .i64 t404, .int .i64 t405] 24 (0, 0))) ∧ Aside0 (w'.heap[gb409]? = some (.cells #[.int .i64 t406, .int .i64 t407] 24 (0, 0))) ∧ Aside0 (Below w.heap.size w w'))
                            case atStart => exact ⟨(0), (by first | rfl | (simp; done) | (simp [*]; done)), H', ⟨Nat.le_refl _⟩, sqk BK396, sqk BK397, sqk BK402, sqk BK403, sqk BK408, sqk BK409, sqh HB⟩
                            case round =>
                              clear H'
                              try clear c1
                              try clear c2
                              try clear c2b0
                              try clear c2b1
                              try clear p2
                              try clear c3
                              try clear c4
                              try clear c5
                              try clear c6
                              try clear c7
                              try clear c8
                              try clear c9
                              try clear c10
                              try clear c11
                              try clear c12
                              try clear c13
                              try clear c14
                              try clear c15
                              try clear c16
                              try clear c17
                              try clear c18
                              try clear c20
                              try clear c21
                              try clear c28
                              try clear c29
                              try clear c30
                              try clear c31
                              try clear c32
                              try clear c34
                              try clear c35
                              try clear c36
                              try clear c37
                              try clear c39
                              try clear c39b0
                              try clear c40
                              try clear c41
                              try clear c42
                              try clear c43
                              try clear c44
                              try clear c45
                              try clear c46
                              try clear c47
                              try clear c48
                              try clear c49
                              try clear c51
                              try clear c52
                              try clear c53
                              try clear c54
                              try clear c55
                              try clear c57
                              try clear c58
                              try clear c59
                              try clear c60
                              try clear c62
                              try clear c63
                              try clear c64
                              try clear c66
                              try clear c67
                              try clear c69
                              try clear c72
                              try clear c74
                              try clear c75
                              try clear c76
                              try clear c77
                              try clear c78
                              try clear c81
                              try clear c82
                              try clear c83
                              try clear c84
                              try clear c87
                              try clear c88
                              try clear c89
                              try clear c90
                              try clear c91
                              try clear c94
                              try clear c95
                              try clear c96
                              try clear c97
                              try clear c98
                              try clear c99
                              try clear c103
                              try clear c105
                              try clear c106
                              try clear c107
                              try clear c108
                              try clear c109
                              try clear c110
                              try clear c112
                              try clear c113
                              try clear c114
                              try clear c115
                              try clear c118
                              try clear c119
                              try clear c120
                              try clear c122
                              try clear c123
                              try clear c128
                              try clear c129
                              try clear c130
                              try clear c131
                              try clear c132
                              try clear c134
                              try clear c135
                              try clear c136
                              try clear c137
                              try clear c140
                              try clear c141
                              try clear c142
                              try clear c144
                              try clear c145
                              try clear c148
                              try clear c149
                              try clear c150
                              try clear c151
                              try clear c152
                              try clear c154
                              try clear c155
                              try clear c156
                              try clear c157
                              try clear c160
                              try clear c162
                              try clear c162b0
                              try clear c163
                              try clear c164
                              try clear c165
                              try clear c166
                              try clear c167
                              try clear c169
                              try clear c170
                              try clear c171
                              try clear c172
                              try clear c173
                              try clear c175
                              try clear c176
                              try clear c177
                              try clear c178
                              try clear c180
                              try clear hcz100_0
                              try clear hcz100_1
                              try clear hcz111_0
                              try clear hcz111_1
                              try clear hcz116_0
                              try clear hcz116_1
                              try clear hcz11_0
                              try clear hcz11_1
                              try clear hcz121_0
                              try clear hcz121_1
                              try clear hcz124_0
                              try clear hcz124_1
                              try clear hcz126_0
                              try clear hcz126_1
                              try clear hcz127_0
                              try clear hcz127_1
                              try clear hcz12_0
                              try clear hcz12_1
                              try clear hcz133_0
                              try clear hcz133_1
                              try clear hcz138_0
                              try clear hcz138_1
                              try clear hcz143_0
                              try clear hcz143_1
                              try clear hcz146_0
                              try clear hcz146_1
                              try clear hcz153_0
                              try clear hcz153_1
                              try clear hcz158_0
                              try clear hcz158_1
                              try clear hcz168_0
                              try clear hcz168_1
                              try clear hcz174_0
                              try clear hcz174_1
                              try clear hcz179_0
                              try clear hcz179_1
                              try clear hcz19_0
                              try clear hcz19_1
                              try clear hcz22_0
                              try clear hcz22_1
                              try clear hcz23_0
                              try clear hcz23_1
                              try clear hcz24_0
                              try clear hcz24_1
                              try clear hcz33_0
                              try clear hcz33_1
                              try clear hcz38_0
                              try clear hcz38_1
                              try clear hcz45_0
                              try clear hcz45_1
                              try clear hcz50_0
                              try clear hcz50_1
                              try clear hcz56_0
                              try clear hcz56_1
                              try clear hcz61_0
                              try clear hcz61_1
                              try clear hcz65_0
                              try clear hcz65_1
                              try clear hcz68_0
                              try clear hcz68_1
                              try clear hcz79_0
                              try clear hcz79_1
                              try clear hcz85_0
                              try clear hcz85_1
                              try clear hcz92_0
                              try clear hcz92_1
                              try clear hfz100_0
                              try clear hfz100_1
                              try clear hfz111_0
                              try clear hfz111_1
                              try clear hfz116_0
                              try clear hfz116_1
                              try clear hfz11_0
                              try clear hfz11_1
                              try clear hfz121_0
                              try clear hfz121_1
                              try clear hfz124_0
                              try clear hfz124_1
                              try clear hfz126_0
                              try clear hfz126_1
                              try clear hfz127_0
                              try clear hfz127_1
                              try clear hfz12_0
                              try clear hfz12_1
                              try clear hfz133_0
                              try clear hfz133_1
                              try clear hfz138_0
                              try clear hfz138_1
                              try clear hfz143_0
                              try clear hfz143_1
                              try clear hfz146_0
                              try clear hfz146_1
                              try clear hfz153_0
                              try clear hfz153_1
                              try clear hfz158_0
                              try clear hfz158_1
                              try clear hfz168_0
                              try clear hfz168_1
                              try clear hfz174_0
                              try clear hfz174_1
                              try clear hfz179_0
                              try clear hfz179_1
                              try clear hfz19_0
                              try clear hfz19_1
                              try clear hfz22_0
                              try clear hfz22_1
                              try clear hfz23_0
                              try clear hfz23_1
                              try clear hfz24_0
                              try clear hfz24_1
                              try clear hfz33_0
                              try clear hfz33_1
                              try clear hfz38_0
                              try clear hfz38_1
                              try clear hfz45_0
                              try clear hfz45_1
                              try clear hfz50_0
                              try clear hfz50_1
                              try clear hfz56_0
                              try clear hfz56_1
                              try clear hfz61_0
                              try clear hfz61_1
                              try clear hfz65_0
                              try clear hfz65_1
                              try clear hfz68_0
                              try clear hfz68_1
                              try clear hfz79_0
                              try clear hfz79_1
                              try clear hfz85_0
                              try clear hfz85_1
                              try clear hfz92_0
                              try clear hfz92_1
                              try clear p2
                              obtain ⟨x10_5, rfl, HA, HK5, BK396, BK397, BK402, BK403, BK408, BK409, HB⟩ := hrel
                              cases gk with
                              | zero => exact absurd HA.out (by simp [laws_FnRangeCmp.l0])
                              | succ k5 =>
                                have H := HA.out
                                clear HA
                                simp only [laws_FnRangeCmp.l0] at H
                                by_cases c181 : x10_5 < 8
                                · rw [if_pos c181] at H
                                  have c181b0 : decide (x10_5 < 8) = true := decide_eq_true c181
                                  clear c181
                                  replace H := Option.bind_eq_some_iff.mp H
                                  obtain ⟨t414, A1820, H⟩ := H
                                  replace H : ((laws_within.f k5 t394 t395 l0 (wrap64 (x10_5 + 9))).bind fun t415 => ((impl_NumCmp.f t391 t414 t415).bind fun t416 => (if t416 = true then ((impl_RangeHas.f t398 t399 t414).bind fun t417 => (if t417 = true then ((impl_RangeHas.f t400 t401 t415).bind fun t418 => (if t418 = true then (laws_FnRangeCmp.l0 k5 l0 t391 (wrap64 (x10_5 + 1)) t392 t393 t394 t395 t398 t399 t400 t401) else (some false))) else (some false))) else (laws_FnRangeCmp.l0 k5 l0 t391 (wrap64 (x10_5 + 1)) t392 t393 t394 t395 t398 t399 t400 t401)))) = some r := H
                                  have A182 := Aside0.mk A1820
                                  clear A1820
                                  replace H := Option.bind_eq_some_iff.mp H
                                  obtain ⟨t415, A1830, H⟩ := H
                                  replace H : ((impl_NumCmp.f t391 t414 t415).bind fun t416 => (if t416 = true then ((impl_RangeHas.f t398 t399 t414).bind fun t417 => (if t417 = true then ((impl_RangeHas.f t400 t401 t415).bind fun t418 => (if t418 = true then (laws_FnRangeCmp.l0 k5 l0 t391 (wrap64 (x10_5 + 1)) t392 t393 t394 t395 t398 t399 t400 t401) else (some false))) else (some false))) else (laws_FnRangeCmp.l0 k5 l0 t391 (wrap64 (x10_5 + 1)) t392 t393 t394 t395 t398 t399 t400 t401))) = some r := H
                                  have A183 := Aside0.mk A1830
                                  clear A1830
                                  replace H := Option.bind_eq_some_iff.mp H
                                  obtain ⟨t416, A1840, H⟩ := H
                                  replace H : (if t416 = true then ((impl_RangeHas.f t398 t399 t414).bind fun t417 => (if t417 = true then ((impl_RangeHas.f t400 t401 t415).bind fun t418 => (if t418 = true then (laws_FnRangeCmp.l0 k5 l0 t391 (wrap64 (x10_5 + 1)) t392 t393 t394 t395 t398 t399 t400 t401) else (some false))) else (some false))) else (laws_FnRangeCmp.l0 k5 l0 t391 (wrap64 (x10_5 + 1)) t392 t393 t394 t395 t398 t399 t400 t401)) = some r := H
                                  have A184 := Aside0.mk A1840
                                  clear A1840
                                  by_cases c185 : t416 = true
                                  · subst c185
                                    have H1 : ((impl_RangeHas.f t398 t399 t414).bind fun t417 => (if t417 = true then ((impl_RangeHas.f t400 t401 t415).bind fun t418 => (if t418 = true then (laws_FnRangeCmp.l0 k5 l0 t391 (wrap64 (x10_5 + 1)) t392 t393 t394 t395 t398 t399 t400 t401) else (some false))) else (some false))) = some r := by rw [if_pos rfl] at H; exact H
                                    clear H
                                    have H := H1
                                    clear H1
                                    replace H := Option.bind_eq_some_iff.mp H
                                    obtain ⟨t417, A1860, H⟩ := H
                                    replace H : (if t417 = true then ((impl_RangeHas.f t400 t401 t415).bind fun t418 => (if t418 = true then (laws_FnRangeCmp.l0 k5 l0 t391 (wrap64 (x10_5 + 1)) t392 t393 t394 t395 t398 t399 t400 t401) else (some false))) else (some false)) = some r := H
                                    have A186 := Aside0.mk A1860
                                    clear A1860
                                    by_cases c187 : t417 = true
                                    · subst c187
                                      have H1 : ((impl_RangeHas.f t400 t401 t415).bind fun t418 => (if t418 = true then (laws_FnRangeCmp.l0 k5 l0 t391 (wrap64 (x10_5 + 1)) t392 t393 t394 t395 t398 t399 t400 t401) else (some false))) = some r := by rw [if_pos rfl] at H; exact H
                                      clear H
                                      have H := H1
                                      clear H1
                                      replace H := Option.bind_eq_some_iff.mp H
                                      obtain ⟨t418, A1880, H⟩ := H
                                      replace H : (if t418 = true then (laws_FnRangeCmp.l0 k5 l0 t391 (wrap64 (x10_5 + 1)) t392 t393 t394 t395 t398 t399 t400 t401) else (some false)) = some r := H
                                      have A188 := Aside0.mk A1880
                                      clear A1880
                                      by_cases c189 : t418 = true
                                      · subst c189
                                        have H1 : (laws_FnRangeCmp.l0 k5 l0 t391 (wrap64 (x10_5 + 1)) t392 t393 t394 t395 t398 t399 t400 t401) = some r := by rw [if_pos rfl] at H; exact H
                                        clear H
                                        have H := H1
                                        clear H1
                                        have H' := Aside0.mk H
                                        clear H
                                        have hnb190 := NB396_397.out
                                        have hnc190 := NB397_396.out
                                        have hnb191 := NB396_402.out
                                        have hnc191 := NB402_396.out
                                        have hnb192 := NB396_403.out
                                        have hnc192 := NB403_396.out
                                        have hnb193 := NB396_408.out
                                        have hnc193 := NB408_396.out
                                        have hnb194 := NB396_409.out
                                        have hnc194 := NB409_396.out
                                        obtain ⟨hcz195_0, hcz195_1, hfz195_0, hfz195_1⟩ := sqc2 BK396
                                        go_wp2_with (first | ((with_reducible refine gate_callee (f := 20) rfl ?_); refine sqL (some 99) Try.func20 #[.agg #[.int .i64 t392, .int .i64 t393], .slice A0 l0.length c0, .int .i64 x10_5] ?_; (with_reducible refine (laws_within.calls k5 t392 t393 _ _ l0 x10_5 t414 _ ?side1 ?side2 A182.out).mono ?_); (case side1 => repeat (first | exact (Kd.C_below HR0.out HB.out) | (with_reducible refine Kd.C_alloc ?_ _) | (with_reducible refine Kd.C_drewN ?_ _) | (with_reducible refine Kd.C_drew ?_))); (case side2 => exact HC0.out); rintro e w196 ⟨rfl, hb⟩; refine ⟨_, rfl, ?_⟩; replace BK396 := sqb BK396 hb; replace BK397 := sqb BK397 hb; replace BK402 := sqb BK402 hb; replace BK403 := sqb BK403 hb; replace BK408 := sqb BK408 hb; replace BK409 := sqb BK409 hb; replace HB := sqs HB hb; (try clear hb); have hnb197 := NB397_402.out; have hnc197 := NB402_397.out; have hnb198 := NB397_403.out; have hnc198 := NB403_397.out; have hnb199 := NB397_408.out; have hnc199 := NB408_397.out; have hnb200 := NB397_409.out; have hnc200 := NB409_397.out; obtain ⟨hcz201_0, hcz201_1, hfz201_0, hfz201_1⟩ := sqc2 BK397) | ((with_reducible refine gate_callee (f := 20) rfl ?_); refine sqL (some 104) Try.func20 #[.agg #[.int .i64 t394, .int .i64 t395], .slice A0 l0.length c0, .int .i64 (wrap64 (x10_5 + 9))] ?_; (with_reducible refine (laws_within.calls k5 t394 t395 _ _ l0 (wrap64 (x10_5 + 9)) t415 _ ?side1 ?side2 A183.out).mono ?_); (case side1 => repeat (first | exact (Kd.C_below HR0.out HB.out) | (with_reducible refine Kd.C_alloc ?_ _) | (with_reducible refine Kd.C_drewN ?_ _) | (with_reducible refine Kd.C_drew ?_))); (case side2 => exact HC0.out); rintro e w202 ⟨rfl, hb⟩; refine ⟨_, rfl, ?_⟩; replace BK396 := sqb BK396 hb; replace BK397 := sqb BK397 hb; replace BK402 := sqb BK402 hb; replace BK403 := sqb BK403 hb; replace BK408 := sqb BK408 hb; replace BK409 := sqb BK409 hb; replace HB := sqs HB hb; (try clear hb)) | ((with_reducible refine gate_callee (f := 47) rfl ?_); refine sqL (some 108) Try.func47 #[.int .i64 t391, .int .i64 t414, .int .i64 t415] ?_; (with_reducible refine (impl_NumCmp.calls t391 t414 t415 true _ A184.out).mono ?_); rintro e w' ⟨rfl, ⟨nd, rfl⟩⟩; refine ⟨_, rfl, ?_⟩; have hnb203 := NB402_403.out; have hnc203 := NB403_402.out; have hnb204 := NB402_408.out; have hnc204 := NB408_402.out; have hnb205 := NB402_409.out; have hnc205 := NB409_402.out; obtain ⟨hcz206_0, hcz206_1, hfz206_0, hfz206_1⟩ := sqc2 BK402) | (go_at_call 48; (with_reducible refine (impl_RangeHas.calls t398 t399 t414 true _ A186.out).mono ?_); rintro e w207 ⟨rfl, hb⟩; replace BK396 := sqb BK396 hb; replace BK397 := sqb BK397 hb; replace BK402 := sqb BK402 hb; replace BK403 := sqb BK403 hb; replace BK408 := sqb BK408 hb; replace BK409 := sqb BK409 hb; replace HB := sqs HB hb; (try clear hb); have hnb208 := NB403_408.out; have hnc208 := NB408_403.out; have hnb209 := NB403_409.out; have hnc209 := NB409_403.out; obtain ⟨hcz210_0, hcz210_1, hfz210_0, hfz210_1⟩ := sqc2 BK403) | (go_at_call 48; (with_reducible refine (impl_RangeHas.calls t400 t401 t415 true _ A188.out).mono ?_); rintro e w211 ⟨rfl, hb⟩; replace BK396 := sqb BK396 hb; replace BK397 := sqb BK397 hb; replace BK402 := sqb BK402 hb; replace BK403 := sqb BK403 hb; replace BK408 := sqb BK408 hb; replace BK409 := sqb BK409 hb; replace HB := sqs HB hb; (try clear hb)))
                                        go_roundg k5
                                        case measure => have := HJ5.out; have := HJ69.out; have := HJ100.out; have := HJ160.out; have := HK5.out; omega
                                        case rel => exact ⟨(wrap64 (x10_5 + 1)), (by first | rfl | (simp; done) | (simp [*]; done)), H', ⟨by have := HJ5.out; have := HJ69.out; have := HJ100.out; have := HJ160.out; have := HK5.out; omega⟩, sqk BK396, sqk BK397, sqk BK402, sqk BK403, sqk BK408, sqk BK409, sqh HB⟩
                                      · replace c189 := Bool.eq_false_iff.mpr c189
                                        subst c189
                                        have H1 : (some false) = some r := by rw [if_neg (show ¬ (false = true) by decide)] at H; exact H
                                        clear H
                                        have H := H1
                                        clear H1
                                        obtain rfl := Option.some.inj H
                                        have hnb212 := NB396_397.out
                                        have hnc212 := NB397_396.out
                                        have hnb213 := NB396_402.out
                                        have hnc213 := NB402_396.out
                                        have hnb214 := NB396_403.out
                                        have hnc214 := NB403_396.out
                                        have hnb215 := NB396_408.out
                                        have hnc215 := NB408_396.out
                                        have hnb216 := NB396_409.out
                                        have hnc216 := NB409_396.out
                                        obtain ⟨hcz217_0, hcz217_1, hfz217_0, hfz217_1⟩ := sqc2 BK396
                                        go_wp2_with (first | ((with_reducible refine gate_callee (f := 20) rfl ?_); refine sqL (some 99) Try.func20 #[.agg #[.int .i64 t392, .int .i64 t393], .slice A0 l0.length c0, .int .i64 x10_5] ?_; (with_reducible refine (laws_within.calls k5 t392 t393 _ _ l0 x10_5 t414 _ ?side1 ?side2 A182.out).mono ?_); (case side1 => repeat (first | exact (Kd.C_below HR0.out HB.out) | (with_reducible refine Kd.C_alloc ?_ _) | (with_reducible refine Kd.C_drewN ?_ _) | (with_reducible refine Kd.C_drew ?_))); (case side2 => exact HC0.out); rintro e w218 ⟨rfl, hb⟩; refine ⟨_, rfl, ?_⟩; replace BK396 := sqb BK396 hb; replace BK397 := sqb BK397 hb; replace BK402 := sqb BK402 hb; replace BK403 := sqb BK403 hb; replace BK408 := sqb BK408 hb; replace BK409 := sqb BK409 hb; replace HB := sqs HB hb; (try clear hb); have hnb219 := NB397_402.out; have hnc219 := NB402_397.out; have hnb220 := NB397_403.out; have hnc220 := NB403_397.out; have hnb221 := NB397_408.out; have hnc221 := NB408_397.out; have hnb222 := NB397_409.out; have hnc222 := NB409_397.out; obtain ⟨hcz223_0, hcz223_1, hfz223_0, hfz223_1⟩ := sqc2 BK397) | ((with_reducible refine gate_callee (f := 20) rfl ?_); refine sqL (some 104) Try.func20 #[.agg #[.int .i64 t394, .int .i64 t395], .slice A0 l0.length c0, .int .i64 (wrap64 (x10_5 + 9))] ?_; (with_reducible refine (laws_within.calls k5 t394 t395 _ _ l0 (wrap64 (x10_5 + 9)) t415 _ ?side1 ?side2 A183.out).mono ?_); (case side1 => repeat (first | exact (Kd.C_below HR0.out HB.out) | (with_reducible refine Kd.C_alloc ?_ _) | (with_reducible refine Kd.C_drewN ?_ _) | (with_reducible refine Kd.C_drew ?_))); (case side2 => exact HC0.out); rintro e w224 ⟨rfl, hb⟩; refine ⟨_, rfl, ?_⟩; replace BK396 := sqb BK396 hb; replace BK397 := sqb BK397 hb; replace BK402 := sqb BK402 hb; replace BK403 := sqb BK403 hb; replace BK408 := sqb BK408 hb; replace BK409 := sqb BK409 hb; replace HB := sqs HB hb; (try clear hb)) | ((with_reducible refine gate_callee (f := 47) rfl ?_); refine sqL (some 108) Try.func47 #[.int .i64 t391, .int .i64 t414, .int .i64 t415] ?_; (with_reducible refine (impl_NumCmp.calls t391 t414 t415 true _ A184.out).mono ?_); rintro e w' ⟨rfl, ⟨nd, rfl⟩⟩; refine ⟨_, rfl, ?_⟩; have hnb225 := NB402_403.out; have hnc225 := NB403_402.out; have hnb226 := NB402_408.out; have hnc226 := NB408_402.out; have hnb227 := NB402_409.out; have hnc227 := NB409_402.out; obtain ⟨hcz228_0, hcz228_1, hfz228_0, hfz228_1⟩ := sqc2 BK402) | (go_at_call 48; (with_reducible refine (impl_RangeHas.calls t398 t399 t414 true _ A186.out).mono ?_); rintro e w229 ⟨rfl, hb⟩; replace BK396 := sqb BK396 hb; replace BK397 := sqb BK397 hb; replace BK402 := sqb BK402 hb; replace BK403 := sqb BK403 hb; replace BK408 := sqb BK408 hb; replace BK409 := sqb BK409 hb; replace HB := sqs HB hb; (try clear hb); have hnb230 := NB403_408.out; have hnc230 := NB408_403.out; have hnb231 := NB403_409.out; have hnc231 := NB409_403.out; obtain ⟨hcz232_0, hcz232_1, hfz232_0, hfz232_1⟩ := sqc2 BK403) | (go_at_call 48; (with_reducible refine (impl_RangeHas.calls t400 t401 t415 false _ A188.out).mono ?_); rintro e w233 ⟨rfl, hb⟩; replace BK396 := sqb BK396 hb; replace BK397 := sqb BK397 hb; replace BK402 := sqb BK402 hb; replace BK403 := sqb BK403 hb; replace BK408 := sqb BK408 hb; replace BK409 := sqb BK409 hb; replace HB := sqs HB hb; (try clear hb)))
                                        go_ret
                                        exact sqe HB
                                    · replace c187 := Bool.eq_false_iff.mpr c187
                                      subst c187
                                      have H1 : (some false) = some r := by rw [if_neg (show ¬ (false = true) by decide)] at H; exact H
                                      clear H
                                      have H := H1
                                      clear H1
                                      obtain rfl := Option.some.inj H
                                      have hnb234 := NB396_397.out
                                      have hnc234 := NB397_396.out
                                      have hnb235 := NB396_402.out
                                      have hnc235 := NB402_396.out
                                      have hnb236 := NB396_403.out
                                      have hnc236 := NB403_396.out
                                      have hnb237 := NB396_408.out
                                      have hnc237 := NB408_396.out
                                      have hnb238 := NB396_409.out
                                      have hnc238 := NB409_396.out
                                      obtain ⟨hcz239_0, hcz239_1, hfz239_0, hfz239_1⟩ := sqc2 BK396
                                      go_wp2_with (first | ((with_reducible refine gate_callee (f := 20) rfl ?_); refine sqL (some 99) Try.func20 #[.agg #[.int .i64 t392, .int .i64 t393], .slice A0 l0.length c0, .int .i64 x10_5] ?_; (with_reducible refine (laws_within.calls k5 t392 t393 _ _ l0 x10_5 t414 _ ?side1 ?side2 A182.out).mono ?_); (case side1 => repeat (first | exact (Kd.C_below HR0.out HB.out) | (with_reducible refine Kd.C_alloc ?_ _) | (with_reducible refine Kd.C_drewN ?_ _) | (with_reducible refine Kd.C_drew ?_))); (case side2 => exact HC0.out); rintro e w240 ⟨rfl, hb⟩; refine ⟨_, rfl, ?_⟩; replace BK396 := sqb BK396 hb; replace BK397 := sqb BK397 hb; replace BK402 := sqb BK402 hb; replace BK403 := sqb BK403 hb; replace BK408 := sqb BK408 hb; replace BK409 := sqb BK409 hb; replace HB := sqs HB hb; (try clear hb); have hnb241 := NB397_402.out; have hnc241 := NB402_397.out; have hnb242 := NB397_403.out; have hnc242 := NB403_397.out; have hnb243 := NB397_408.out; have hnc243 := NB408_397.out; have hnb244 := NB397_409.out; have hnc244 := NB409_397.out; obtain ⟨hcz245_0, hcz245_1, hfz245_0, hfz245_1⟩ := sqc2 BK397) | ((with_reducible refine gate_callee (f := 20) rfl ?_); refine sqL (some 104) Try.func20 #[.agg #[.int .i64 t394, .int .i64 t395], .slice A0 l0.length c0, .int .i64 (wrap64 (x10_5 + 9))] ?_; (with_reducible refine (laws_within.calls k5 t394 t395 _ _ l0 (wrap64 (x10_5 + 9)) t415 _ ?side1 ?side2 A183.out).mono ?_); (case side1 => repeat (first | exact (Kd.C_below HR0.out HB.out) | (with_reducible refine Kd.C_alloc ?_ _) | (with_reducible refine Kd.C_drewN ?_ _) | (with_reducible refine Kd.C_drew ?_))); (case side2 => exact HC0.out); rintro e w246 ⟨rfl, hb⟩; refine ⟨_, rfl, ?_⟩; replace BK396 := sqb BK396 hb; replace BK397 := sqb BK397 hb; replace BK402 := sqb BK402 hb; replace BK403 := sqb BK403 hb; replace BK408 := sqb BK408 hb; replace BK409 := sqb BK409 hb; replace HB := sqs HB hb; (try clear hb)) | ((with_reducible refine gate_callee (f := 47) rfl ?_); refine sqL (some 108) Try.func47 #[.int .i64 t391, .int .i64 t414, .int .i64 t415] ?_; (with_reducible refine (impl_NumCmp.calls t391 t414 t415 true _ A184.out).mono ?_); rintro e w' ⟨rfl, ⟨nd, rfl⟩⟩; refine ⟨_, rfl, ?_⟩; have hnb247 := NB402_403.out; have hnc247 := NB403_402.out; have hnb248 := NB402_408.out; have hnc248 := NB408_402.out; have hnb249 := NB402_409.out; have hnc249 := NB409_402.out; obtain ⟨hcz250_0, hcz250_1, hfz250_0, hfz250_1⟩ := sqc2 BK402) | (go_at_call 48; (with_reducible refine (impl_RangeHas.calls t398 t399 t414 false _ A186.out).mono ?_); rintro e w251 ⟨rfl, hb⟩; replace BK396 := sqb BK396 hb; replace BK397 := sqb BK397 hb; replace BK402 := sqb BK402 hb; replace BK403 := sqb BK403 hb; replace BK408 := sqb BK408 hb; replace BK409 := sqb BK409 hb; replace HB := sqs HB hb; (try clear hb)))
                                      go_ret
                                      exact sqe HB
                                  · replace c185 := Bool.eq_false_iff.mpr c185
                                    subst c185
                                    have H1 : (laws_FnRangeCmp.l0 k5 l0 t391 (wrap64 (x10_5 + 1)) t392 t393 t394 t395 t398 t399 t400 t401) = some r := by rw [if_neg (show ¬ (false = true) by decide)] at H; exact H
                                    clear H
                                    have H := H1
                                    clear H1
                                    have H' := Aside0.mk H
                                    clear H
                                    have hnb252 := NB396_397.out
                                    have hnc252 := NB397_396.out
                                    have hnb253 := NB396_402.out
                                    have hnc253 := NB402_396.out
                                    have hnb254 := NB396_403.out
                                    have hnc254 := NB403_396.out
                                    have hnb255 := NB396_408.out
                                    have hnc255 := NB408_396.out
                                    have hnb256 := NB396_409.out
                                    have hnc256 := NB409_396.out
                                    obtain ⟨hcz257_0, hcz257_1, hfz257_0, hfz257_1⟩ := sqc2 BK396
                                    go_wp2_with (first | ((with_reducible refine gate_callee (f := 20) rfl ?_); refine sqL (some 99) Try.func20 #[.agg #[.int .i64 t392, .int .i64 t393], .slice A0 l0.length c0, .int .i64 x10_5] ?_; (with_reducible refine (laws_within.calls k5 t392 t393 _ _ l0 x10_5 t414 _ ?side1 ?side2 A182.out).mono ?_); (case side1 => repeat (first | exact (Kd.C_below HR0.out HB.out) | (with_reducible refine Kd.C_alloc ?_ _) | (with_reducible refine Kd.C_drewN ?_ _) | (with_reducible refine Kd.C_drew ?_))); (case side2 => exact HC0.out); rintro e w258 ⟨rfl, hb⟩; refine ⟨_, rfl, ?_⟩; replace BK396 := sqb BK396 hb; replace BK397 := sqb BK397 hb; replace BK402 := sqb BK402 hb; replace BK403 := sqb BK403 hb; replace BK408 := sqb BK408 hb; replace BK409 := sqb BK409 hb; replace HB := sqs HB hb; (try clear hb); have hnb259 := NB397_402.out; have hnc259 := NB402_397.out; have hnb260 := NB397_403.out; have hnc260 := NB403_397.out; have hnb261 := NB397_408.out; have hnc261 := NB408_397.out; have hnb262 := NB397_409.out; have hnc262 := NB409_397.out; obtain ⟨hcz263_0, hcz263_1, hfz263_0, hfz263_1⟩ := sqc2 BK397) | ((with_reducible refine gate_callee (f := 20) rfl ?_); refine sqL (some 104) Try.func20 #[.agg #[.int .i64 t394, .int .i64 t395], .slice A0 l0.length c0, .int .i64 (wrap64 (x10_5 + 9))] ?_; (with_reducible refine (laws_within.calls k5 t394 t395 _ _ l0 (wrap64 (x10_5 + 9)) t415 _ ?side1 ?side2 A183.out).mono ?_); (case side1 => repeat (first | exact (Kd.C_below HR0.out HB.out) | (with_reducible refine Kd.C_alloc ?_ _) | (with_reducible refine Kd.C_drewN ?_ _) | (with_reducible refine Kd.C_drew ?_))); (case side2 => exact HC0.out); rintro e w264 ⟨rfl, hb⟩; refine ⟨_, rfl, ?_⟩; replace BK396 := sqb BK396 hb; replace BK397 := sqb BK397 hb; replace BK402 := sqb BK402 hb; replace BK403 := sqb BK403 hb; replace BK408 := sqb BK408 hb; replace BK409 := sqb BK409 hb; replace HB := sqs HB hb; (try clear hb)) | ((with_reducible refine gate_callee (f := 47) rfl ?_); refine sqL (some 108) Try.func47 #[.int .i64 t391, .int .i64 t414, .int .i64 t415] ?_; (with_reducible refine (impl_NumCmp.calls t391 t414 t415 false _ A184.out).mono ?_); rintro e w' ⟨rfl, ⟨nd, rfl⟩⟩; refine ⟨_, rfl, ?_⟩))
                                    go_roundg k5
                                    case measure => have := HJ5.out; have := HJ69.out; have := HJ100.out; have := HJ160.out; have := HK5.out; omega
                                    case rel => exact ⟨(wrap64 (x10_5 + 1)), (by first | rfl | (simp; done) | (simp [*]; done)), H', ⟨by have := HJ5.out; have := HJ69.out; have := HJ100.out; have := HJ160.out; have := HK5.out; omega⟩, sqk BK396, sqk BK397, sqk BK402, sqk BK403, sqk BK408, sqk BK409, sqh HB⟩
                                · rw [if_neg c181] at H
                                  have c181b0 : decide (x10_5 < 8) = false := decide_eq_false c181
                                  clear c181
                                  obtain rfl := Option.some.inj H
                                  go_wp2
                                  go_ret
                                  exact sqe HB

/-- THE ONE PURE STATEMENT of laws_FnRangeCmp: yours. -/
theorem laws_FnRangeCmp.walk (P : laws_FnRangeCmp.Pure) (a0 : Option Addr) (len0 cap0 : Nat) (z0 : List Int) (w : World) (w0 : (a0 = none ∧ len0 = 0 ∧ cap0 = 0 ∧ z0 = []) ∨ ∃ x, a0 = some x ∧ len0 ≤ cap0 ∧ cap0 ≤ maxLen ∧ z0.length = cap0 ∧ (∀ i, i < z0.length → w.cell? (x.add i) = some (.int .u8 (z0.getD i 0))) ∧ ∀ n ∈ z0, (Lit.int .u8 n).wf = true) (y0 : len0 * 1 ≤ 140737488351232) :
    Calls Try.prog 7 #[.slice a0 len0 cap0] w fun e w' => e = .returned (.bool true) ∧ Below w.heap.size w w' := by
  obtain ⟨l0, rfl, hr0, hm0, hw0, hc0⟩ := ReadsInt.ofRowC w0
  obtain ⟨k, h⟩ := P l0 hm0 y0 hw0
  refine (laws_FnRangeCmp.calls k _ _ l0 true w (Kd.C_of_reads (d := (0 : Int)) (h1 := fun _ => rfl) hr0) hc0 h).mono ?_
  rintro e w' ⟨rfl, hd⟩
  exact ⟨rfl, hd⟩

end Go.Proofs.Ytkekcenlleebeaa.PFnRangeCmp
