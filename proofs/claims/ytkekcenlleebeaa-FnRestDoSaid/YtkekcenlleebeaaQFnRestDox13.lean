/- Functions of the program as plain Lean functions, and that calls of them come to what these tell. Conditions: those in each law. -/
import Derived.Test.YtkekcenlleebeaaSq
import Derived.Test.YtkekcenlleebeaaDFnRestDo
import Derived.Test.YtkekcenlleebeaaQFnRestDox0
import Derived.Test.YtkekcenlleebeaaQFnRestDox1
import Derived.Test.YtkekcenlleebeaaQFnRestDox2
import Derived.Test.YtkekcenlleebeaaQFnRestDox4
import Derived.Test.YtkekcenlleebeaaQFnRestDox5
import Derived.Test.YtkekcenlleebeaaQFnRestDox8
import Derived.Test.YtkekcenlleebeaaQFnRestDox10
import Derived.Test.YtkekcenlleebeaaQFnRestDox11
import Derived.Test.YtkekcenlleebeaaQFnRestDox12
namespace Go.Proofs.Ytkekcenlleebeaa.PFnRestDo
open Go.RowKit Go.Proofs.Ytkekcenlleebeaa.Sq Go.Proofs.YtkekcenlleebeaaW.PrintWords Go.Proofs.YtkekcenlleebeaaW.PrintLast Go.Proofs.YtkekcenlleebeaaW.PrintMore
attribute [local go_sem] max2_int min2_int max_two min_two max_three min_three max_four min_four   -- for this text's walks alone
set_option linter.unusedVariables false
set_option linter.unusedSimpArgs false

attribute [local go_sem high] eqA26
/-! ### laws_FnRestDo: function 10 -/
theorem laws_FnRestDo.mono_l : ∀ k, (∀ y0 y1 y2 y3 y4 y5 y6 y7 y8, LeO (laws_FnRestDo.j0 k y0 y1 y2 y3 y4 y5 y6 y7 y8) (laws_FnRestDo.j0 (k + 1) y0 y1 y2 y3 y4 y5 y6 y7 y8)) ∧ (∀ y0 y1 y2 y3 y4 y5 y6 y7 y8, LeO (laws_FnRestDo.j1 k y0 y1 y2 y3 y4 y5 y6 y7 y8) (laws_FnRestDo.j1 (k + 1) y0 y1 y2 y3 y4 y5 y6 y7 y8)) ∧ (∀ y0 y1 y2 y3 y4 y5 y6 y7 y8, LeO (laws_FnRestDo.l0 k y0 y1 y2 y3 y4 y5 y6 y7 y8) (laws_FnRestDo.l0 (k + 1) y0 y1 y2 y3 y4 y5 y6 y7 y8))
  | 0 => ⟨fun _ _ _ _ _ _ _ _ _ r h => by simp [laws_FnRestDo.j0] at h, fun _ _ _ _ _ _ _ _ _ r h => by simp [laws_FnRestDo.j1] at h, fun _ _ _ _ _ _ _ _ _ r h => by simp [laws_FnRestDo.l0] at h⟩
  | k + 1 => by
    obtain ⟨ih0, ih1, ih2⟩ := laws_FnRestDo.mono_l k
    refine ⟨?_, ?_, ?_⟩
    · intro y0 y1 y2 y3 y4 y5 y6 y7 y8
      unfold laws_FnRestDo.j0
      repeat' first
      | (with_reducible exact ih0 _ _ _ _ _ _ _ _ _)
      | (with_reducible exact ih1 _ _ _ _ _ _ _ _ _)
      | (with_reducible exact ih2 _ _ _ _ _ _ _ _ _)
      | (with_reducible exact impl_RestDo.mono _ _ _ _ _ _)
      | (with_reducible exact impl_RestHas.mono _ _ _ _)
      | (with_reducible exact laws_ofRest.mono _ _ _ _ _)
      | (with_reducible exact spec_DrawRestDo.mono _ _)
      | (with_reducible exact spec_NumDo.mono _ _ _ _)
      | (with_reducible exact spec_RestDo.mono _ _ _ _ _ _)
      | (with_reducible exact spec_RestHas.mono _ _ _ _)
      | (with_reducible exact LeO.refl _)
      | (with_reducible exact LeO.none _)
      | (with_reducible refine LeO.ite ?_ ?_)
      | (with_reducible refine LeO.bind ?_ (fun _ => ?_))
      | exact ih0 _ _ _ _ _ _ _ _ _
      | exact ih1 _ _ _ _ _ _ _ _ _
      | exact ih2 _ _ _ _ _ _ _ _ _
      | exact impl_RestDo.mono _ _ _ _ _ _
      | exact impl_RestHas.mono _ _ _ _
      | exact laws_ofRest.mono _ _ _ _ _
      | exact spec_DrawRestDo.mono _ _
      | exact spec_NumDo.mono _ _ _ _
      | exact spec_RestDo.mono _ _ _ _ _ _
      | exact spec_RestHas.mono _ _ _ _
      | exact LeO.none _
      | refine LeO.ite ?_ ?_
      | refine LeO.bind ?_ (fun _ => ?_)
    · intro y0 y1 y2 y3 y4 y5 y6 y7 y8
      unfold laws_FnRestDo.j1
      repeat' first
      | (with_reducible exact ih0 _ _ _ _ _ _ _ _ _)
      | (with_reducible exact ih1 _ _ _ _ _ _ _ _ _)
      | (with_reducible exact ih2 _ _ _ _ _ _ _ _ _)
      | (with_reducible exact impl_RestDo.mono _ _ _ _ _ _)
      | (with_reducible exact impl_RestHas.mono _ _ _ _)
      | (with_reducible exact laws_ofRest.mono _ _ _ _ _)
      | (with_reducible exact spec_DrawRestDo.mono _ _)
      | (with_reducible exact spec_NumDo.mono _ _ _ _)
      | (with_reducible exact spec_RestDo.mono _ _ _ _ _ _)
      | (with_reducible exact spec_RestHas.mono _ _ _ _)
      | (with_reducible exact LeO.refl _)
      | (with_reducible exact LeO.none _)
      | (with_reducible refine LeO.ite ?_ ?_)
      | (with_reducible refine LeO.bind ?_ (fun _ => ?_))
      | exact ih0 _ _ _ _ _ _ _ _ _
      | exact ih1 _ _ _ _ _ _ _ _ _
      | exact ih2 _ _ _ _ _ _ _ _ _
      | exact impl_RestDo.mono _ _ _ _ _ _
      | exact impl_RestHas.mono _ _ _ _
      | exact laws_ofRest.mono _ _ _ _ _
      | exact spec_DrawRestDo.mono _ _
      | exact spec_NumDo.mono _ _ _ _
      | exact spec_RestDo.mono _ _ _ _ _ _
      | exact spec_RestHas.mono _ _ _ _
      | exact LeO.none _
      | refine LeO.ite ?_ ?_
      | refine LeO.bind ?_ (fun _ => ?_)
    · intro y0 y1 y2 y3 y4 y5 y6 y7 y8
      unfold laws_FnRestDo.l0
      repeat' first
      | (with_reducible exact ih0 _ _ _ _ _ _ _ _ _)
      | (with_reducible exact ih1 _ _ _ _ _ _ _ _ _)
      | (with_reducible exact ih2 _ _ _ _ _ _ _ _ _)
      | (with_reducible exact impl_RestDo.mono _ _ _ _ _ _)
      | (with_reducible exact impl_RestHas.mono _ _ _ _)
      | (with_reducible exact laws_ofRest.mono _ _ _ _ _)
      | (with_reducible exact spec_DrawRestDo.mono _ _)
      | (with_reducible exact spec_NumDo.mono _ _ _ _)
      | (with_reducible exact spec_RestDo.mono _ _ _ _ _ _)
      | (with_reducible exact spec_RestHas.mono _ _ _ _)
      | (with_reducible exact LeO.refl _)
      | (with_reducible exact LeO.none _)
      | (with_reducible refine LeO.ite ?_ ?_)
      | (with_reducible refine LeO.bind ?_ (fun _ => ?_))
      | exact ih0 _ _ _ _ _ _ _ _ _
      | exact ih1 _ _ _ _ _ _ _ _ _
      | exact ih2 _ _ _ _ _ _ _ _ _
      | exact impl_RestDo.mono _ _ _ _ _ _
      | exact impl_RestHas.mono _ _ _ _
      | exact laws_ofRest.mono _ _ _ _ _
      | exact spec_DrawRestDo.mono _ _
      | exact spec_NumDo.mono _ _ _ _
      | exact spec_RestDo.mono _ _ _ _ _ _
      | exact spec_RestHas.mono _ _ _ _
      | exact LeO.none _
      | refine LeO.ite ?_ ?_
      | refine LeO.bind ?_ (fun _ => ?_)
theorem laws_FnRestDo.mono : ∀ a0 k, LeO (laws_FnRestDo.f k a0) (laws_FnRestDo.f (k + 1) a0) := by
  intro a0 k
  obtain ⟨ih0, ih1, ih2⟩ := laws_FnRestDo.mono_l k
  unfold laws_FnRestDo.f
  repeat' first
      | (with_reducible exact ih0 _ _ _ _ _ _ _ _ _)
      | (with_reducible exact ih1 _ _ _ _ _ _ _ _ _)
      | (with_reducible exact ih2 _ _ _ _ _ _ _ _ _)
      | (with_reducible exact impl_RestDo.mono _ _ _ _ _ _)
      | (with_reducible exact impl_RestHas.mono _ _ _ _)
      | (with_reducible exact laws_ofRest.mono _ _ _ _ _)
      | (with_reducible exact spec_DrawRestDo.mono _ _)
      | (with_reducible exact spec_NumDo.mono _ _ _ _)
      | (with_reducible exact spec_RestDo.mono _ _ _ _ _ _)
      | (with_reducible exact spec_RestHas.mono _ _ _ _)
      | (with_reducible exact LeO.refl _)
      | (with_reducible exact LeO.none _)
      | (with_reducible refine LeO.ite ?_ ?_)
      | (with_reducible refine LeO.bind ?_ (fun _ => ?_))
      | exact ih0 _ _ _ _ _ _ _ _ _
      | exact ih1 _ _ _ _ _ _ _ _ _
      | exact ih2 _ _ _ _ _ _ _ _ _
      | exact impl_RestDo.mono _ _ _ _ _ _
      | exact impl_RestHas.mono _ _ _ _
      | exact laws_ofRest.mono _ _ _ _ _
      | exact spec_DrawRestDo.mono _ _
      | exact spec_NumDo.mono _ _ _ _
      | exact spec_RestDo.mono _ _ _ _ _ _
      | exact spec_RestHas.mono _ _ _ _
      | exact LeO.none _
      | refine LeO.ite ?_ ?_
      | refine LeO.bind ?_ (fun _ => ?_)
def laws_FnRestDo.T5 : Bool × List (List Nat × List Nat) := (true, [([], []), ([], []), ([], []), ([], []), ([1, 2, 3], [1, 2, 3]), ([0, 4], [0, 4]), ([5, 4], [5]), ([6], [6]), ([7, 6, 6], [6, 7]), ([8, 6], [6, 8]), ([6, 9], [6, 9])])
def laws_FnRestDo.B5 : List Nat := [0, 0, 0, 0, 14, 31, 63, 127, 255, 511, 1023]
theorem laws_FnRestDo.tab5 : rtab .any (opsOf Try.f10 5) = laws_FnRestDo.T5 := by kernel_rfl
theorem laws_FnRestDo.bits5 : waitsOk laws_FnRestDo.T5.2 laws_FnRestDo.B5 = true := by kernel_rfl
set_option maxHeartbeats 8000000 in
set_option maxRecDepth 100000 in
theorem laws_FnRestDo.calls (k : Nat) (A0 : Option Addr) (c0 : Nat) (l0 : List Int) (r : Bool) (w : World) (hr0 : Kd.C (Kd.int .u8) w A0 l0.length l0) (hc0 : l0.length ≤ c0) (h : laws_FnRestDo.f k l0 = some r) :
    Calls Try.prog 10 #[.slice A0 l0.length c0] w fun e w' => e = .returned (.bool r) ∧ Below w.heap.size w w' := by
  have hu26 := Try.underlying26
  have HR0 := Aside0.mk hr0
  have HC0 := Aside0.mk hc0
  clear hr0 hc0
  have HB := Aside0.mk (Below.refl w.heap.size w)
  have H : (if (l0.length : Int) > 1048576 then (some true) else ((spec_DrawRestDo.f k l0).bind fun bt353 => ((impl_RestDo.f k bt353.1 bt353.2.1 bt353.2.2.1 bt353.2.2.2.1 bt353.2.2.2.2).bind fun bt360 => ((spec_RestDo.f k bt353.1 bt353.2.1 bt353.2.2.1 bt353.2.2.2.1 bt353.2.2.2.2).bind fun bt363 => (if (!(bt360.1 == bt363.1) || (!(bt360.2 == bt363.2))) = true then (laws_FnRestDo.j0 k l0 bt353.1 true bt353.2.1 bt353.2.2.1 bt353.2.2.2.1 bt353.2.2.2.2 bt360.1 bt360.2) else ((impl_RestOk.f bt360.1 bt360.2).bind fun t365 => (laws_FnRestDo.j0 k l0 bt353.1 (!t365) bt353.2.1 bt353.2.2.1 bt353.2.2.2.1 bt353.2.2.2.2 bt360.1 bt360.2))))))) = some r := h
  clear h
  by_cases c2 : (l0.length : Int) > 1048576
  · rw [if_pos c2] at H
    have c2b0 : decide (1048576 < (l0.length : Int)) = true := decide_eq_true c2
    have c2b1 : decide (1048576 < l0.length) = true := decide_eq_true (by omega)
    clear c2
    obtain rfl := Option.some.inj H
    go_enter Try.func10, Try.ntmps10
    go_wp2
    go_ret
    exact sqe HB
  · rw [if_neg c2] at H
    have c2b0 : decide (1048576 < (l0.length : Int)) = false := decide_eq_false c2
    have c2b1 : decide (1048576 < l0.length) = false := decide_eq_false (by omega)
    clear c2
    replace H := Option.bind_eq_some_iff.mp H
    obtain ⟨⟨t353, t354, t355, t356, t357⟩, A30, H⟩ := H
    replace H : ((impl_RestDo.f k t353 t354 t355 t356 t357).bind fun bt360 => ((spec_RestDo.f k t353 t354 t355 t356 t357).bind fun bt363 => (if (!(bt360.1 == bt363.1) || (!(bt360.2 == bt363.2))) = true then (laws_FnRestDo.j0 k l0 t353 true t354 t355 t356 t357 bt360.1 bt360.2) else ((impl_RestOk.f bt360.1 bt360.2).bind fun t365 => (laws_FnRestDo.j0 k l0 t353 (!t365) t354 t355 t356 t357 bt360.1 bt360.2))))) = some r := H
    have A3 := Aside0.mk A30
    clear A30
    replace H := Option.bind_eq_some_iff.mp H
    obtain ⟨⟨t360, t361⟩, A40, H⟩ := H
    replace H : ((spec_RestDo.f k t353 t354 t355 t356 t357).bind fun bt363 => (if (!(t360 == bt363.1) || (!(t361 == bt363.2))) = true then (laws_FnRestDo.j0 k l0 t353 true t354 t355 t356 t357 t360 t361) else ((impl_RestOk.f t360 t361).bind fun t365 => (laws_FnRestDo.j0 k l0 t353 (!t365) t354 t355 t356 t357 t360 t361)))) = some r := H
    have A4 := Aside0.mk A40
    clear A40
    have HC5 := Aside0.mk H
    clear H
    go_enter Try.func10, Try.ntmps10
    go_upto_region 5 with (first | ((with_reducible refine gate_callee (f := 62) rfl ?_); refine sqL (some 17) Try.func62 #[.slice A0 l0.length c0] ?_; (with_reducible refine (spec_DrawRestDo.calls k _ _ l0 t353 t354 t355 t356 t357 _ ?side1 ?side2 A3.out).mono ?_); (case side1 => repeat (first | exact HR0.out | (with_reducible refine Kd.C_alloc ?_ _) | (with_reducible refine Kd.C_drewN ?_ _) | (with_reducible refine Kd.C_drew ?_))); (case side2 => exact HC0.out); rintro e w6 ⟨rfl, hb⟩; refine ⟨_, rfl, ?_⟩; replace HB := sqs HB hb; (try clear hb)) | ((with_reducible refine gate_dst (N := 4) rfl ?_); refine sqx 4 #[.int .i64 0, .int .i64 0] 26 ?_; intro gb358 hg w7 hbox hb; have BK358 := Aside0.mk (hbox); have GW358 := sqg HB hg; have GE358 := sqg HB hg; replace HB := sqs HB hb; clear hb hbox hg) | ((with_reducible refine gate_dst (N := 5) rfl ?_); refine sqx 5 #[.int .i64 0, .int .i64 0] 26 ?_; intro gb359 hg w8 hbox hb; have BK359 := Aside0.mk (hbox); have GW359 := sqg HB hg; have GE359 := sqg HB hg; have NB358_359 := sqn BK358 hg; have NB359_358 := sqm BK358 hg; replace BK358 := sqb BK358 hb; replace HB := sqs HB hb; clear hb hbox hg; have hnb9 := NB358_359.out; have hnc9 := NB359_358.out; obtain ⟨hcz10_0, hcz10_1, hfz10_0, hfz10_1⟩ := sqc2 BK358; obtain ⟨hcz11_0, hcz11_1, hfz11_0, hfz11_1⟩ := sqc2 BK359) | ((with_reducible refine gate_callee (f := 63) rfl ?_); refine sqL (some 24) Try.func63 #[.int .i64 t353, .agg #[.int .i64 t354, .int .i64 t355], .agg #[.int .i64 t356, .int .i64 t357]] ?_; (with_reducible refine (impl_RestDo.calls k t353 t354 t355 t356 t357 t360 t361 _ A4.out).mono ?_); rintro e w12 ⟨rfl, hb⟩; refine ⟨_, rfl, ?_⟩; have n0_ := Aside0.mk (blk_below (g := gb358) (o := .cells #[.int .i64 t354, .int .i64 t355] 26 (0, 0)) (by refine sqt ?_; refine blk_far ?_ NB358_359.out _; refine sqt ?_; refine blk_far ?_ NB358_359.out _; refine sqt ?_; refine blk_put (cs := #[.int .i64 t354, .int .i64 0]) ?_ 1 _ rfl; refine sqt ?_; refine blk_put (cs := #[.int .i64 0, .int .i64 0]) ?_ 0 _ rfl; refine sqt ?_; exact BK358.out) hb); have n1_ := Aside0.mk (blk_below (g := gb359) (o := .cells #[.int .i64 t356, .int .i64 t357] 26 (0, 0)) (by refine sqt ?_; refine blk_put (cs := #[.int .i64 t356, .int .i64 0]) ?_ 1 _ rfl; refine sqt ?_; refine blk_put (cs := #[.int .i64 0, .int .i64 0]) ?_ 0 _ rfl; refine sqt ?_; refine blk_far ?_ NB359_358.out _; refine sqt ?_; refine blk_far ?_ NB359_358.out _; refine sqt ?_; exact BK359.out) hb); have n2_ := sqs HB hb; clear BK358; clear BK359; clear HB; have BK358 := n0_; have BK359 := n1_; have HB := n2_; clear n0_ n1_ n2_; (try clear hb)) | ((with_reducible refine gate_dst (N := 6) rfl ?_); refine sqx 6 #[.int .i64 0, .int .i64 0] 26 ?_; intro gb362 hg w13 hbox hb; have BK362 := Aside0.mk (hbox); have GW362 := sqg HB hg; have GE362 := sqg HB hg; have NB358_362 := sqn BK358 hg; have NB362_358 := sqm BK358 hg; have NB359_362 := sqn BK359 hg; have NB362_359 := sqm BK359 hg; replace BK358 := sqb BK358 hb; replace BK359 := sqb BK359 hb; replace HB := sqs HB hb; clear hb hbox hg; have hnb14 := NB362_358.out; have hnc14 := NB358_362.out; have hnb15 := NB362_359.out; have hnc15 := NB359_362.out; obtain ⟨hcz16_0, hcz16_1, hfz16_0, hfz16_1⟩ := sqc2 BK362))
    (try simp only [Act.put, List.setIfInBounds_toArray, List.set_cons_zero, List.set_cons_succ])
    go_cut [35] (fun v35 wc => ∃ (kq : Nat) (x35_4 : Bool), v35 = .bool x35_4 ∧ Aside0 (laws_FnRestDo.j0 kq l0 t353 x35_4 t354 t355 t356 t357 t360 t361 = some r) ∧ Aside0 (kq ≤ k) ∧ Aside0 (wc.heap[gb358]? = some (.cells #[.int .i64 t354, .int .i64 t355] 26 (0, 0))) ∧ Aside0 (wc.heap[gb359]? = some (.cells #[.int .i64 t356, .int .i64 t357] 26 (0, 0))) ∧ Aside0 (wc.heap[gb362]? = some (.cells #[.int .i64 t360, .int .i64 t361] 26 (0, 0))) ∧ Aside0 (Below w.heap.size w wc))
    case first =>
      as_aux_lemma =>
      have H := HC5.out
      clear HC5
      replace H := Option.bind_eq_some_iff.mp H
      obtain ⟨⟨t363, t364⟩, A170, H⟩ := H
      replace H : (if (!(t360 == t363) || (!(t361 == t364))) = true then (laws_FnRestDo.j0 k l0 t353 true t354 t355 t356 t357 t360 t361) else ((impl_RestOk.f t360 t361).bind fun t365 => (laws_FnRestDo.j0 k l0 t353 (!t365) t354 t355 t356 t357 t360 t361))) = some r := H
      have A17 := Aside0.mk A170
      clear A170
      by_cases c18 : (!(t360 == t363) || (!(t361 == t364))) = true
      · rw [if_pos c18] at H
        have c18b0 : (!(t360 == t363) || (!(t361 == t364))) = true := c18
        clear c18
        (first | rw [c18b0] | (simp only [i64_w, i32_w]; rw [c18b0]) | skip)
        have H' := Aside0.mk H
        clear H
        try go_wp2
        have n0_ : Aside0 (((w13.setCell ⟨gb362, 0, none⟩ (.int .i64 t360)).setCell ⟨gb362, 1, none⟩ (.int .i64 t361)).heap[gb358]? = some (.cells #[.int .i64 t354, .int .i64 t355] 26 (0, 0))) := ⟨by refine sqt ?_; refine blk_far ?_ NB358_362.out _; refine sqt ?_; refine blk_far ?_ NB358_362.out _; refine sqt ?_; exact BK358.out⟩
        have n1_ : Aside0 (((w13.setCell ⟨gb362, 0, none⟩ (.int .i64 t360)).setCell ⟨gb362, 1, none⟩ (.int .i64 t361)).heap[gb359]? = some (.cells #[.int .i64 t356, .int .i64 t357] 26 (0, 0))) := ⟨by refine sqt ?_; refine blk_far ?_ NB359_362.out _; refine sqt ?_; refine blk_far ?_ NB359_362.out _; refine sqt ?_; exact BK359.out⟩
        have n2_ : Aside0 (((w13.setCell ⟨gb362, 0, none⟩ (.int .i64 t360)).setCell ⟨gb362, 1, none⟩ (.int .i64 t361)).heap[gb362]? = some (.cells #[.int .i64 t360, .int .i64 t361] 26 (0, 0))) := ⟨by refine sqt ?_; refine blk_put (cs := #[.int .i64 t360, .int .i64 0]) ?_ 1 _ rfl; refine sqt ?_; refine blk_put (cs := #[.int .i64 0, .int .i64 0]) ?_ 0 _ rfl; refine sqt ?_; exact BK362.out⟩
        have n3_ : Aside0 (Below w.heap.size w ((w13.setCell ⟨gb362, 0, none⟩ (.int .i64 t360)).setCell ⟨gb362, 1, none⟩ (.int .i64 t361))) := sqh HB
        (try clear BK358)
        (try clear BK359)
        (try clear BK362)
        (try clear HB)
        generalize ((w13.setCell ⟨gb362, 0, none⟩ (.int .i64 t360)).setCell ⟨gb362, 1, none⟩ (.int .i64 t361)) = w19 at n0_ n1_ n2_ n3_ ⊢
        have BK358 := n0_
        have BK359 := n1_
        have BK362 := n2_
        have HB := n3_
        clear n0_ n1_ n2_ n3_
        replace BK358 := Aside0.mk (blk_drew BK358.out)
        replace BK359 := Aside0.mk (blk_drew BK359.out)
        replace BK362 := Aside0.mk (blk_drew BK362.out)
        replace HB := Aside0.mk (below_drew1 HB.out)
        refine start_ (n := 11) (S := fun w' => w'.cell? ⟨gb362, 0, none⟩ = some (.int .i64 t360) ∧ w'.cell? ⟨gb362, 1, none⟩ = some (.int .i64 t361) ∧ w'.cell? ⟨gb358, 0, none⟩ = some (.int .i64 t354) ∧ w'.cell? ⟨gb358, 1, none⟩ = some (.int .i64 t355) ∧ w'.cell? ⟨gb359, 0, none⟩ = some (.int .i64 t356) ∧ w'.cell? ⟨gb359, 1, none⟩ = some (.int .i64 t357)) (ds := []) #[false, false, false, false, false, false, false, false, false, false, false] (by kernel_rfl) rfl rfl ⟨(blk_cell BK362.out 0).trans rfl, (blk_cell BK362.out 1).trans rfl, (blk_cell BK358.out 0).trans rfl, (blk_cell BK358.out 1).trans rfl, (blk_cell BK359.out 0).trans rfl, (blk_cell BK359.out 1).trans rfl⟩ (fun hHeld => ?_); refine with_tabW laws_FnRestDo.tab5 laws_FnRestDo.bits5 (fun HT_ HW_ => ?_)
        generalize w19.drew = w20 at BK358 BK359 BK362 HB hHeld ⊢
        refine sqp HT_ 1 26 ?_
        refine sqw HT_ HW_ 0 25 hHeld ?_
        refine sqw HT_ HW_ 2 27 hHeld ?_
        refine sqw HT_ HW_ 3 28 hHeld ?_
        refine sqo HT_ 4 29 (fun K hK => ?_)
        refine sqG Try.func64 #[.int .i64 t353, .agg #[.int .i64 t354, .int .i64 t355], .agg #[.int .i64 t356, .int .i64 t357]] ?_
        with_reducible refine (spec_RestDo.calls k t353 t354 t355 t356 t357 t363 t364 _ A17.out).mono ?_
        rintro e w21 ⟨rfl, hb⟩
        refine ⟨_, rfl, ?_⟩
        replace BK358 := sqb BK358 hb
        replace BK359 := sqb BK359 hb
        replace BK362 := sqb BK362 hb
        replace HB := sqs HB hb
        (try clear hb)
        refine hK.out _ _ sqz (fun hHeld => ?_)
        clear hK K
        refine sqnm ?_
        refine sqp HT_ 5 30 ?_
        refine sqp HT_ 6 31 ?_
        refine sqpu HT_ 7 32 ?_
        refine sqpu HT_ 8 33 ?_
        refine sqpu HT_ 9 34 ?_
        refine sqp HT_ 10 35 ?_
        refine done_ (done_of HT_.out (by kernel_rfl)) ?_
        try go_wp2
        go_meet
        case rel => exact ⟨_, (true), (by first | rfl | (simp; done) | (simp [*]; done)), H', ⟨by first | omega | exact Nat.le_refl _⟩, sqk BK358, sqk BK359, sqk BK362, sqh HB⟩
      · rw [if_neg c18] at H
        have c18b0 : (!(t360 == t363) || (!(t361 == t364))) = false := by simpa using c18
        clear c18
        (first | rw [c18b0] | (simp only [i64_w, i32_w]; rw [c18b0]) | skip)
        replace H := Option.bind_eq_some_iff.mp H
        obtain ⟨t365, A220, H⟩ := H
        replace H : (laws_FnRestDo.j0 k l0 t353 (!t365) t354 t355 t356 t357 t360 t361) = some r := H
        have A22 := Aside0.mk A220
        clear A220
        have H' := Aside0.mk H
        clear H
        try go_wp2
        have n0_ : Aside0 (((w13.setCell ⟨gb362, 0, none⟩ (.int .i64 t360)).setCell ⟨gb362, 1, none⟩ (.int .i64 t361)).heap[gb358]? = some (.cells #[.int .i64 t354, .int .i64 t355] 26 (0, 0))) := ⟨by refine sqt ?_; refine blk_far ?_ NB358_362.out _; refine sqt ?_; refine blk_far ?_ NB358_362.out _; refine sqt ?_; exact BK358.out⟩
        have n1_ : Aside0 (((w13.setCell ⟨gb362, 0, none⟩ (.int .i64 t360)).setCell ⟨gb362, 1, none⟩ (.int .i64 t361)).heap[gb359]? = some (.cells #[.int .i64 t356, .int .i64 t357] 26 (0, 0))) := ⟨by refine sqt ?_; refine blk_far ?_ NB359_362.out _; refine sqt ?_; refine blk_far ?_ NB359_362.out _; refine sqt ?_; exact BK359.out⟩
        have n2_ : Aside0 (((w13.setCell ⟨gb362, 0, none⟩ (.int .i64 t360)).setCell ⟨gb362, 1, none⟩ (.int .i64 t361)).heap[gb362]? = some (.cells #[.int .i64 t360, .int .i64 t361] 26 (0, 0))) := ⟨by refine sqt ?_; refine blk_put (cs := #[.int .i64 t360, .int .i64 0]) ?_ 1 _ rfl; refine sqt ?_; refine blk_put (cs := #[.int .i64 0, .int .i64 0]) ?_ 0 _ rfl; refine sqt ?_; exact BK362.out⟩
        have n3_ : Aside0 (Below w.heap.size w ((w13.setCell ⟨gb362, 0, none⟩ (.int .i64 t360)).setCell ⟨gb362, 1, none⟩ (.int .i64 t361))) := sqh HB
        (try clear BK358)
        (try clear BK359)
        (try clear BK362)
        (try clear HB)
        generalize ((w13.setCell ⟨gb362, 0, none⟩ (.int .i64 t360)).setCell ⟨gb362, 1, none⟩ (.int .i64 t361)) = w23 at n0_ n1_ n2_ n3_ ⊢
        have BK358 := n0_
        have BK359 := n1_
        have BK362 := n2_
        have HB := n3_
        clear n0_ n1_ n2_ n3_
        replace BK358 := Aside0.mk (blk_drew BK358.out)
        replace BK359 := Aside0.mk (blk_drew BK359.out)
        replace BK362 := Aside0.mk (blk_drew BK362.out)
        replace HB := Aside0.mk (below_drew1 HB.out)
        refine start_ (n := 11) (S := fun w' => w'.cell? ⟨gb362, 0, none⟩ = some (.int .i64 t360) ∧ w'.cell? ⟨gb362, 1, none⟩ = some (.int .i64 t361) ∧ w'.cell? ⟨gb358, 0, none⟩ = some (.int .i64 t354) ∧ w'.cell? ⟨gb358, 1, none⟩ = some (.int .i64 t355) ∧ w'.cell? ⟨gb359, 0, none⟩ = some (.int .i64 t356) ∧ w'.cell? ⟨gb359, 1, none⟩ = some (.int .i64 t357)) (ds := []) #[false, false, false, false, false, false, false, false, false, false, false] (by kernel_rfl) rfl rfl ⟨(blk_cell BK362.out 0).trans rfl, (blk_cell BK362.out 1).trans rfl, (blk_cell BK358.out 0).trans rfl, (blk_cell BK358.out 1).trans rfl, (blk_cell BK359.out 0).trans rfl, (blk_cell BK359.out 1).trans rfl⟩ (fun hHeld => ?_); refine with_tabW laws_FnRestDo.tab5 laws_FnRestDo.bits5 (fun HT_ HW_ => ?_)
        generalize w23.drew = w24 at BK358 BK359 BK362 HB hHeld ⊢
        refine sqp HT_ 1 26 ?_
        refine sqw HT_ HW_ 0 25 hHeld ?_
        refine sqw HT_ HW_ 2 27 hHeld ?_
        refine sqw HT_ HW_ 3 28 hHeld ?_
        refine sqo HT_ 4 29 (fun K hK => ?_)
        refine sqG Try.func64 #[.int .i64 t353, .agg #[.int .i64 t354, .int .i64 t355], .agg #[.int .i64 t356, .int .i64 t357]] ?_
        with_reducible refine (spec_RestDo.calls k t353 t354 t355 t356 t357 t363 t364 _ A17.out).mono ?_
        rintro e w25 ⟨rfl, hb⟩
        refine ⟨_, rfl, ?_⟩
        replace BK358 := sqb BK358 hb
        replace BK359 := sqb BK359 hb
        replace BK362 := sqb BK362 hb
        replace HB := sqs HB hb
        (try clear hb)
        refine hK.out _ _ sqz (fun hHeld => ?_)
        clear hK K
        refine sqnm ?_
        refine sqp HT_ 5 30 ?_
        refine sqp HT_ 6 31 ?_
        refine sqw HT_ HW_ 7 32 hHeld ?_
        refine sqo HT_ 8 33 (fun K hK => ?_)
        refine sqG Try.func65 #[.agg #[.int .i64 t360, .int .i64 t361]] ?_
        with_reducible refine (impl_RestOk.calls t360 t361 t365 _ A22.out).mono ?_
        rintro e w26 ⟨rfl, hb⟩
        refine ⟨_, rfl, ?_⟩
        replace BK358 := sqb BK358 hb
        replace BK359 := sqb BK359 hb
        replace BK362 := sqb BK362 hb
        replace HB := sqs HB hb
        (try clear hb)
        refine hK.out _ _ sqz (fun hHeld => ?_)
        clear hK K
        refine sqnm ?_
        refine sqp HT_ 9 34 ?_
        refine sqp HT_ 10 35 ?_
        refine done_ (done_of HT_.out (by kernel_rfl)) ?_
        try go_wp2
        go_meet
        case rel => exact ⟨_, (!t365), (by first | rfl | (simp; done) | (simp [*]; done)), H', ⟨by first | omega | exact Nat.le_refl _⟩, sqk BK358, sqk BK359, sqk BK362, sqh HB⟩
    case rest =>
      as_aux_lemma =>
      clear HC5
      try clear c2
      try clear c2b0
      try clear c2b1
      try clear hcz10_0
      try clear hcz10_1
      try clear hcz11_0
      try clear hcz11_1
      try clear hcz16_0
      try clear hcz16_1
      try clear hfz10_0
      try clear hfz10_1
      try clear hfz11_0
      try clear hfz11_1
      try clear hfz16_0
      try clear hfz16_1
      obtain ⟨kq, x35_4, rfl, HA, HJ4, BK358, BK359, BK362, HB⟩ := hcut
      cases kq with
      | zero => exact absurd HA.out (by simp [laws_FnRestDo.j0])
      | succ kj4 =>
        have H := HA.out
        clear HA
        simp only [laws_FnRestDo.j0] at H
        by_cases c27 : x35_4 = true
        · subst c27
          have H1 : (some false) = some r := by rw [if_pos rfl] at H; exact H
          clear H
          have H := H1
          clear H1
          obtain rfl := Option.some.inj H
          go_wp2
          go_ret
          exact sqe HB
        · replace c27 := Bool.eq_false_iff.mpr c27
          subst c27
          have H1 : ((spec_RestOk.f t354 t355).bind fun t366 => (if t366 = true then ((spec_RestOk.f t356 t357).bind fun t367 => (laws_FnRestDo.j1 kj4 l0 t353 (!t367) t354 t355 t356 t357 t360 t361)) else (laws_FnRestDo.j1 kj4 l0 t353 true t354 t355 t356 t357 t360 t361))) = some r := by rw [if_neg (show ¬ (false = true) by decide)] at H; exact H
          clear H
          have H := H1
          clear H1
          have HC28 := Aside0.mk H
          clear H
          go_upto_region 7 with (fail)
          go_cut [43] (fun v43 wc => ∃ (kq : Nat) (x43_27 : Bool), v43 = .bool x43_27 ∧ Aside0 (laws_FnRestDo.j1 kq l0 t353 x43_27 t354 t355 t356 t357 t360 t361 = some r) ∧ Aside0 (kq ≤ kj4) ∧ Aside0 (wc.heap[gb358]? = some (.cells #[.int .i64 t354, .int .i64 t355] 26 (0, 0))) ∧ Aside0 (wc.heap[gb359]? = some (.cells #[.int .i64 t356, .int .i64 t357] 26 (0, 0))) ∧ Aside0 (wc.heap[gb362]? = some (.cells #[.int .i64 t360, .int .i64 t361] 26 (0, 0))) ∧ Aside0 (Below w.heap.size w wc))
          case first =>
            as_aux_lemma =>
            have H := HC28.out
            clear HC28
            replace H := Option.bind_eq_some_iff.mp H
            obtain ⟨t366, A290, H⟩ := H
            replace H : (if t366 = true then ((spec_RestOk.f t356 t357).bind fun t367 => (laws_FnRestDo.j1 kj4 l0 t353 (!t367) t354 t355 t356 t357 t360 t361)) else (laws_FnRestDo.j1 kj4 l0 t353 true t354 t355 t356 t357 t360 t361)) = some r := H
            have A29 := Aside0.mk A290
            clear A290
            by_cases c30 : t366 = true
            · subst c30
              have H1 : ((spec_RestOk.f t356 t357).bind fun t367 => (laws_FnRestDo.j1 kj4 l0 t353 (!t367) t354 t355 t356 t357 t360 t361)) = some r := by rw [if_pos rfl] at H; exact H
              clear H
              have H := H1
              clear H1
              replace H := Option.bind_eq_some_iff.mp H
              obtain ⟨t367, A310, H⟩ := H
              replace H : (laws_FnRestDo.j1 kj4 l0 t353 (!t367) t354 t355 t356 t357 t360 t361) = some r := H
              have A31 := Aside0.mk A310
              clear A310
              have H' := Aside0.mk H
              clear H
              have hnb32 := NB358_359.out
              have hnc32 := NB359_358.out
              have hnb33 := NB358_362.out
              have hnc33 := NB362_358.out
              obtain ⟨hcz34_0, hcz34_1, hfz34_0, hfz34_1⟩ := sqc2 BK358
              go_wp2_with (first | ((with_reducible refine gate_callee (f := 66) rfl ?_); refine sqL (some 37) Try.func66 #[.agg #[.int .i64 t354, .int .i64 t355]] ?_; (with_reducible refine (spec_RestOk.calls t354 t355 true _ A29.out).mono ?_); rintro e w35 ⟨rfl, hb⟩; refine ⟨_, rfl, ?_⟩; replace BK358 := sqb BK358 hb; replace BK359 := sqb BK359 hb; replace BK362 := sqb BK362 hb; replace HB := sqs HB hb; (try clear hb); have hnb36 := NB359_362.out; have hnc36 := NB362_359.out; obtain ⟨hcz37_0, hcz37_1, hfz37_0, hfz37_1⟩ := sqc2 BK359) | (go_at_call 66; (with_reducible refine (spec_RestOk.calls t356 t357 t367 _ A31.out).mono ?_); rintro e w38 ⟨rfl, hb⟩; replace BK358 := sqb BK358 hb; replace BK359 := sqb BK359 hb; replace BK362 := sqb BK362 hb; replace HB := sqs HB hb; (try clear hb)))
              go_meet
              case rel => exact ⟨_, (!t367), (by first | rfl | (simp; done) | (simp [*]; done)), H', ⟨by have := HJ4.out; first | omega | exact Nat.le_refl _⟩, sqk BK358, sqk BK359, sqk BK362, sqh HB⟩
            · replace c30 := Bool.eq_false_iff.mpr c30
              subst c30
              have H1 : (laws_FnRestDo.j1 kj4 l0 t353 true t354 t355 t356 t357 t360 t361) = some r := by rw [if_neg (show ¬ (false = true) by decide)] at H; exact H
              clear H
              have H := H1
              clear H1
              have H' := Aside0.mk H
              clear H
              have hnb39 := NB358_359.out
              have hnc39 := NB359_358.out
              have hnb40 := NB358_362.out
              have hnc40 := NB362_358.out
              obtain ⟨hcz41_0, hcz41_1, hfz41_0, hfz41_1⟩ := sqc2 BK358
              go_wp2_with (first | ((with_reducible refine gate_callee (f := 66) rfl ?_); refine sqL (some 37) Try.func66 #[.agg #[.int .i64 t354, .int .i64 t355]] ?_; (with_reducible refine (spec_RestOk.calls t354 t355 false _ A29.out).mono ?_); rintro e w42 ⟨rfl, hb⟩; refine ⟨_, rfl, ?_⟩; replace BK358 := sqb BK358 hb; replace BK359 := sqb BK359 hb; replace BK362 := sqb BK362 hb; replace HB := sqs HB hb; (try clear hb)))
              go_meet
              case rel => exact ⟨_, (true), (by first | rfl | (simp; done) | (simp [*]; done)), H', ⟨by have := HJ4.out; first | omega | exact Nat.le_refl _⟩, sqk BK358, sqk BK359, sqk BK362, sqh HB⟩
          case rest =>
            as_aux_lemma =>
            clear HC28
            try clear c2
            try clear c2b0
            try clear c2b1
            try clear c18
            try clear c18b0
            try clear c27
            try clear hcz10_0
            try clear hcz10_1
            try clear hcz11_0
            try clear hcz11_1
            try clear hcz16_0
            try clear hcz16_1
            try clear hfz10_0
            try clear hfz10_1
            try clear hfz11_0
            try clear hfz11_1
            try clear hfz16_0
            try clear hfz16_1
            obtain ⟨kq, x43_27, rfl, HA, HJ27, BK358, BK359, BK362, HB⟩ := hcut
            cases kq with
            | zero => exact absurd HA.out (by simp [laws_FnRestDo.j1])
            | succ kj27 =>
              have H := HA.out
              clear HA
              simp only [laws_FnRestDo.j1] at H
              by_cases c43 : x43_27 = true
              · subst c43
                have H1 : (some (t360 == 1 && (t361 == 0))) = some r := by rw [if_pos rfl] at H; exact H
                clear H
                have H := H1
                clear H1
                obtain rfl := Option.some.inj H
                have hnb44 := NB362_358.out
                have hnc44 := NB358_362.out
                have hnb45 := NB362_359.out
                have hnc45 := NB359_362.out
                obtain ⟨hcz46_0, hcz46_1, hfz46_0, hfz46_1⟩ := sqc2 BK362
                go_wp2
                go_ret
                exact sqe HB
              · replace c43 := Bool.eq_false_iff.mpr c43
                subst c43
                have H1 : (laws_FnRestDo.l0 kj27 l0 t353 0 t354 t355 t356 t357 t360 t361) = some r := by rw [if_neg (show ¬ (false = true) by decide)] at H; exact H
                clear H
                have H := H1
                clear H1
                have H' := Aside0.mk H
                clear H
                go_wp2
                go_loopg [7] kj27 (fun kq v7 w' => ∃ (x7_3 : Int), v7 = .int .i64 x7_3 ∧ Aside0 (laws_FnRestDo.l0 kq l0 t353 x7_3 t354 t355 t356 t357 t360 t361 = some r) ∧ Aside0 (kq ≤ kj27) ∧ Aside0 (w'.heap[gb358]? = some (.cells #[.int .i64 t354, .int .i64 t355] 26 (0, 0))) ∧ Aside0 (w'.heap[gb359]? = some (.cells #[.int .i64 t356, .int .i64 t357] 26 (0, 0))) ∧ Aside0 (w'.heap[gb362]? = some (.cells #[.int .i64 t360, .int .i64 t361] 26 (0, 0))) ∧ Aside0 (Below w.heap.size w w'))
                case atStart => exact ⟨(0), (by first | rfl | (simp; done) | (simp [*]; done)), H', ⟨Nat.le_refl _⟩, sqk BK358, sqk BK359, sqk BK362, sqh HB⟩
                case round =>
                  clear H'
                  try clear c1
                  try clear c2
                  try clear c2b0
                  try clear c2b1
                  try clear p2
                  try clear c3
                  try clear c4
                  try clear c6
                  try clear c9
                  try clear c10
                  try clear c14
                  try clear c15
                  try clear c18
                  try clear c18b0
                  try clear c27
                  try clear c30
                  try clear c32
                  try clear c33
                  try clear c36
                  try clear c39
                  try clear c40
                  try clear c43
                  try clear c44
                  try clear c45
                  try clear hcz10_0
                  try clear hcz10_1
                  try clear hcz11_0
                  try clear hcz11_1
                  try clear hcz16_0
                  try clear hcz16_1
                  try clear hcz34_0
                  try clear hcz34_1
                  try clear hcz37_0
                  try clear hcz37_1
                  try clear hcz41_0
                  try clear hcz41_1
                  try clear hcz46_0
                  try clear hcz46_1
                  try clear hfz10_0
                  try clear hfz10_1
                  try clear hfz11_0
                  try clear hfz11_1
                  try clear hfz16_0
                  try clear hfz16_1
                  try clear hfz34_0
                  try clear hfz34_1
                  try clear hfz37_0
                  try clear hfz37_1
                  try clear hfz41_0
                  try clear hfz41_1
                  try clear hfz46_0
                  try clear hfz46_1
                  try clear p2
                  obtain ⟨x7_3, rfl, HA, HK3, BK358, BK359, BK362, HB⟩ := hrel
                  cases gk with
                  | zero => exact absurd HA.out (by simp [laws_FnRestDo.l0])
                  | succ k3 =>
                    have H := HA.out
                    clear HA
                    simp only [laws_FnRestDo.l0] at H
                    by_cases c47 : x7_3 < 8
                    · rw [if_pos c47] at H
                      have c47b0 : decide (x7_3 < 8) = true := decide_eq_true c47
                      clear c47
                      replace H := Option.bind_eq_some_iff.mp H
                      obtain ⟨t368, A480, H⟩ := H
                      replace H : ((laws_ofRest.f k3 t356 t357 l0 (wrap64 (x7_3 + 13))).bind fun t369 => ((spec_NumDo.f k3 t353 t368 t369).bind fun bt370 => (if t353 ≥ 1 then (if t353 ≤ 13 then ((spec_RestHas.f k3 t354 t355 t368).bind fun t372 => (if t372 = true then ((spec_RestHas.f k3 t356 t357 t369).bind fun t373 => (if t373 = true then (if bt370.2 = 0 then ((impl_RestHas.f k3 t360 t361 bt370.1).bind fun t374 => (if t374 = true then (laws_FnRestDo.l0 k3 l0 t353 (wrap64 (x7_3 + 1)) t354 t355 t356 t357 t360 t361) else (some false))) else (laws_FnRestDo.l0 k3 l0 t353 (wrap64 (x7_3 + 1)) t354 t355 t356 t357 t360 t361)) else (laws_FnRestDo.l0 k3 l0 t353 (wrap64 (x7_3 + 1)) t354 t355 t356 t357 t360 t361))) else (laws_FnRestDo.l0 k3 l0 t353 (wrap64 (x7_3 + 1)) t354 t355 t356 t357 t360 t361))) else (laws_FnRestDo.l0 k3 l0 t353 (wrap64 (x7_3 + 1)) t354 t355 t356 t357 t360 t361)) else (laws_FnRestDo.l0 k3 l0 t353 (wrap64 (x7_3 + 1)) t354 t355 t356 t357 t360 t361)))) = some r := H
                      have A48 := Aside0.mk A480
                      clear A480
                      replace H := Option.bind_eq_some_iff.mp H
                      obtain ⟨t369, A490, H⟩ := H
                      replace H : ((spec_NumDo.f k3 t353 t368 t369).bind fun bt370 => (if t353 ≥ 1 then (if t353 ≤ 13 then ((spec_RestHas.f k3 t354 t355 t368).bind fun t372 => (if t372 = true then ((spec_RestHas.f k3 t356 t357 t369).bind fun t373 => (if t373 = true then (if bt370.2 = 0 then ((impl_RestHas.f k3 t360 t361 bt370.1).bind fun t374 => (if t374 = true then (laws_FnRestDo.l0 k3 l0 t353 (wrap64 (x7_3 + 1)) t354 t355 t356 t357 t360 t361) else (some false))) else (laws_FnRestDo.l0 k3 l0 t353 (wrap64 (x7_3 + 1)) t354 t355 t356 t357 t360 t361)) else (laws_FnRestDo.l0 k3 l0 t353 (wrap64 (x7_3 + 1)) t354 t355 t356 t357 t360 t361))) else (laws_FnRestDo.l0 k3 l0 t353 (wrap64 (x7_3 + 1)) t354 t355 t356 t357 t360 t361))) else (laws_FnRestDo.l0 k3 l0 t353 (wrap64 (x7_3 + 1)) t354 t355 t356 t357 t360 t361)) else (laws_FnRestDo.l0 k3 l0 t353 (wrap64 (x7_3 + 1)) t354 t355 t356 t357 t360 t361))) = some r := H
                      have A49 := Aside0.mk A490
                      clear A490
                      replace H := Option.bind_eq_some_iff.mp H
                      obtain ⟨⟨t370, t371⟩, A500, H⟩ := H
                      replace H : (if t353 ≥ 1 then (if t353 ≤ 13 then ((spec_RestHas.f k3 t354 t355 t368).bind fun t372 => (if t372 = true then ((spec_RestHas.f k3 t356 t357 t369).bind fun t373 => (if t373 = true then (if t371 = 0 then ((impl_RestHas.f k3 t360 t361 t370).bind fun t374 => (if t374 = true then (laws_FnRestDo.l0 k3 l0 t353 (wrap64 (x7_3 + 1)) t354 t355 t356 t357 t360 t361) else (some false))) else (laws_FnRestDo.l0 k3 l0 t353 (wrap64 (x7_3 + 1)) t354 t355 t356 t357 t360 t361)) else (laws_FnRestDo.l0 k3 l0 t353 (wrap64 (x7_3 + 1)) t354 t355 t356 t357 t360 t361))) else (laws_FnRestDo.l0 k3 l0 t353 (wrap64 (x7_3 + 1)) t354 t355 t356 t357 t360 t361))) else (laws_FnRestDo.l0 k3 l0 t353 (wrap64 (x7_3 + 1)) t354 t355 t356 t357 t360 t361)) else (laws_FnRestDo.l0 k3 l0 t353 (wrap64 (x7_3 + 1)) t354 t355 t356 t357 t360 t361)) = some r := H
                      have A50 := Aside0.mk A500
                      clear A500
                      by_cases c51 : t353 ≥ 1
                      · rw [if_pos c51] at H
                        have c51b0 : decide (1 ≤ t353) = true := decide_eq_true c51
                        clear c51
                        by_cases c52 : t353 ≤ 13
                        · rw [if_pos c52] at H
                          have c52b0 : decide (t353 ≤ 13) = true := decide_eq_true c52
                          clear c52
                          replace H := Option.bind_eq_some_iff.mp H
                          obtain ⟨t372, A530, H⟩ := H
                          replace H : (if t372 = true then ((spec_RestHas.f k3 t356 t357 t369).bind fun t373 => (if t373 = true then (if t371 = 0 then ((impl_RestHas.f k3 t360 t361 t370).bind fun t374 => (if t374 = true then (laws_FnRestDo.l0 k3 l0 t353 (wrap64 (x7_3 + 1)) t354 t355 t356 t357 t360 t361) else (some false))) else (laws_FnRestDo.l0 k3 l0 t353 (wrap64 (x7_3 + 1)) t354 t355 t356 t357 t360 t361)) else (laws_FnRestDo.l0 k3 l0 t353 (wrap64 (x7_3 + 1)) t354 t355 t356 t357 t360 t361))) else (laws_FnRestDo.l0 k3 l0 t353 (wrap64 (x7_3 + 1)) t354 t355 t356 t357 t360 t361)) = some r := H
                          have A53 := Aside0.mk A530
                          clear A530
                          by_cases c54 : t372 = true
                          · subst c54
                            have H1 : ((spec_RestHas.f k3 t356 t357 t369).bind fun t373 => (if t373 = true then (if t371 = 0 then ((impl_RestHas.f k3 t360 t361 t370).bind fun t374 => (if t374 = true then (laws_FnRestDo.l0 k3 l0 t353 (wrap64 (x7_3 + 1)) t354 t355 t356 t357 t360 t361) else (some false))) else (laws_FnRestDo.l0 k3 l0 t353 (wrap64 (x7_3 + 1)) t354 t355 t356 t357 t360 t361)) else (laws_FnRestDo.l0 k3 l0 t353 (wrap64 (x7_3 + 1)) t354 t355 t356 t357 t360 t361))) = some r := by rw [if_pos rfl] at H; exact H
                            clear H
                            have H := H1
                            clear H1
                            replace H := Option.bind_eq_some_iff.mp H
                            obtain ⟨t373, A550, H⟩ := H
                            replace H : (if t373 = true then (if t371 = 0 then ((impl_RestHas.f k3 t360 t361 t370).bind fun t374 => (if t374 = true then (laws_FnRestDo.l0 k3 l0 t353 (wrap64 (x7_3 + 1)) t354 t355 t356 t357 t360 t361) else (some false))) else (laws_FnRestDo.l0 k3 l0 t353 (wrap64 (x7_3 + 1)) t354 t355 t356 t357 t360 t361)) else (laws_FnRestDo.l0 k3 l0 t353 (wrap64 (x7_3 + 1)) t354 t355 t356 t357 t360 t361)) = some r := H
                            have A55 := Aside0.mk A550
                            clear A550
                            by_cases c56 : t373 = true
                            · subst c56
                              have H1 : (if t371 = 0 then ((impl_RestHas.f k3 t360 t361 t370).bind fun t374 => (if t374 = true then (laws_FnRestDo.l0 k3 l0 t353 (wrap64 (x7_3 + 1)) t354 t355 t356 t357 t360 t361) else (some false))) else (laws_FnRestDo.l0 k3 l0 t353 (wrap64 (x7_3 + 1)) t354 t355 t356 t357 t360 t361)) = some r := by rw [if_pos rfl] at H; exact H
                              clear H
                              have H := H1
                              clear H1
                              by_cases c57 : t371 = 0
                              · rw [if_pos c57] at H
                                have c57b0 : (t371 == 0) = true := beq_iff_eq.mpr c57
                                have c57b1 : (t371 != 0) = false := bne_eq_false_iff_eq.mpr c57
                                clear c57
                                replace H := Option.bind_eq_some_iff.mp H
                                obtain ⟨t374, A580, H⟩ := H
                                replace H : (if t374 = true then (laws_FnRestDo.l0 k3 l0 t353 (wrap64 (x7_3 + 1)) t354 t355 t356 t357 t360 t361) else (some false)) = some r := H
                                have A58 := Aside0.mk A580
                                clear A580
                                by_cases c59 : t374 = true
                                · subst c59
                                  have H1 : (laws_FnRestDo.l0 k3 l0 t353 (wrap64 (x7_3 + 1)) t354 t355 t356 t357 t360 t361) = some r := by rw [if_pos rfl] at H; exact H
                                  clear H
                                  have H := H1
                                  clear H1
                                  have H' := Aside0.mk H
                                  clear H
                                  have hnb60 := NB358_359.out
                                  have hnc60 := NB359_358.out
                                  have hnb61 := NB358_362.out
                                  have hnc61 := NB362_358.out
                                  obtain ⟨hcz62_0, hcz62_1, hfz62_0, hfz62_1⟩ := sqc2 BK358
                                  go_wp2_with (first | ((with_reducible refine gate_callee (f := 21) rfl ?_); refine sqL (some 54) Try.func21 #[.agg #[.int .i64 t354, .int .i64 t355], .slice A0 l0.length c0, .int .i64 x7_3] ?_; (with_reducible refine (laws_ofRest.calls k3 t354 t355 _ _ l0 x7_3 t368 _ ?side1 ?side2 A48.out).mono ?_); (case side1 => repeat (first | exact (Kd.C_below HR0.out HB.out) | (with_reducible refine Kd.C_alloc ?_ _) | (with_reducible refine Kd.C_drewN ?_ _) | (with_reducible refine Kd.C_drew ?_))); (case side2 => exact HC0.out); rintro e w63 ⟨rfl, hb⟩; refine ⟨_, rfl, ?_⟩; replace BK358 := sqb BK358 hb; replace BK359 := sqb BK359 hb; replace BK362 := sqb BK362 hb; replace HB := sqs HB hb; (try clear hb); have hnb64 := NB359_362.out; have hnc64 := NB362_359.out; obtain ⟨hcz65_0, hcz65_1, hfz65_0, hfz65_1⟩ := sqc2 BK359) | ((with_reducible refine gate_callee (f := 21) rfl ?_); refine sqL (some 59) Try.func21 #[.agg #[.int .i64 t356, .int .i64 t357], .slice A0 l0.length c0, .int .i64 (wrap64 (x7_3 + 13))] ?_; (with_reducible refine (laws_ofRest.calls k3 t356 t357 _ _ l0 (wrap64 (x7_3 + 13)) t369 _ ?side1 ?side2 A49.out).mono ?_); (case side1 => repeat (first | exact (Kd.C_below HR0.out HB.out) | (with_reducible refine Kd.C_alloc ?_ _) | (with_reducible refine Kd.C_drewN ?_ _) | (with_reducible refine Kd.C_drew ?_))); (case side2 => exact HC0.out); rintro e w66 ⟨rfl, hb⟩; refine ⟨_, rfl, ?_⟩; replace BK358 := sqb BK358 hb; replace BK359 := sqb BK359 hb; replace BK362 := sqb BK362 hb; replace HB := sqs HB hb; (try clear hb)) | ((with_reducible refine gate_callee (f := 67) rfl ?_); refine sqL (some 64) Try.func67 #[.int .i64 t353, .int .i64 t368, .int .i64 t369] ?_; (with_reducible refine (spec_NumDo.calls k3 t353 t368 t369 t370 t371 _ A50.out).mono ?_); rintro e w' ⟨rfl, ⟨nd, rfl⟩⟩; refine ⟨_, rfl, ?_⟩; obtain ⟨hcz67_0, hcz67_1, hfz67_0, hfz67_1⟩ := sqc2 BK358) | (go_at_call 23; (with_reducible refine (spec_RestHas.calls k3 t354 t355 t368 true _ A53.out).mono ?_); rintro e w68 ⟨rfl, hb⟩; replace BK358 := sqb BK358 hb; replace BK359 := sqb BK359 hb; replace BK362 := sqb BK362 hb; replace HB := sqs HB hb; (try clear hb); obtain ⟨hcz69_0, hcz69_1, hfz69_0, hfz69_1⟩ := sqc2 BK359) | (go_at_call 23; (with_reducible refine (spec_RestHas.calls k3 t356 t357 t369 true _ A55.out).mono ?_); rintro e w70 ⟨rfl, hb⟩; replace BK358 := sqb BK358 hb; replace BK359 := sqb BK359 hb; replace BK362 := sqb BK362 hb; replace HB := sqs HB hb; (try clear hb); obtain ⟨hcz71_0, hcz71_1, hfz71_0, hfz71_1⟩ := sqc2 BK362) | (go_at_call 68; (with_reducible refine (impl_RestHas.calls k3 t360 t361 t370 true _ A58.out).mono ?_); rintro e w72 ⟨rfl, hb⟩; replace BK358 := sqb BK358 hb; replace BK359 := sqb BK359 hb; replace BK362 := sqb BK362 hb; replace HB := sqs HB hb; (try clear hb)))
                                  go_roundg k3
                                  case measure => have := HJ4.out; have := HJ27.out; have := HK3.out; omega
                                  case rel => exact ⟨(wrap64 (x7_3 + 1)), (by first | rfl | (simp; done) | (simp [*]; done)), H', ⟨by have := HJ4.out; have := HJ27.out; have := HK3.out; omega⟩, sqk BK358, sqk BK359, sqk BK362, sqh HB⟩
                                · replace c59 := Bool.eq_false_iff.mpr c59
                                  subst c59
                                  have H1 : (some false) = some r := by rw [if_neg (show ¬ (false = true) by decide)] at H; exact H
                                  clear H
                                  have H := H1
                                  clear H1
                                  obtain rfl := Option.some.inj H
                                  have hnb73 := NB358_359.out
                                  have hnc73 := NB359_358.out
                                  have hnb74 := NB358_362.out
                                  have hnc74 := NB362_358.out
                                  obtain ⟨hcz75_0, hcz75_1, hfz75_0, hfz75_1⟩ := sqc2 BK358
                                  go_wp2_with (first | ((with_reducible refine gate_callee (f := 21) rfl ?_); refine sqL (some 54) Try.func21 #[.agg #[.int .i64 t354, .int .i64 t355], .slice A0 l0.length c0, .int .i64 x7_3] ?_; (with_reducible refine (laws_ofRest.calls k3 t354 t355 _ _ l0 x7_3 t368 _ ?side1 ?side2 A48.out).mono ?_); (case side1 => repeat (first | exact (Kd.C_below HR0.out HB.out) | (with_reducible refine Kd.C_alloc ?_ _) | (with_reducible refine Kd.C_drewN ?_ _) | (with_reducible refine Kd.C_drew ?_))); (case side2 => exact HC0.out); rintro e w76 ⟨rfl, hb⟩; refine ⟨_, rfl, ?_⟩; replace BK358 := sqb BK358 hb; replace BK359 := sqb BK359 hb; replace BK362 := sqb BK362 hb; replace HB := sqs HB hb; (try clear hb); have hnb77 := NB359_362.out; have hnc77 := NB362_359.out; obtain ⟨hcz78_0, hcz78_1, hfz78_0, hfz78_1⟩ := sqc2 BK359) | ((with_reducible refine gate_callee (f := 21) rfl ?_); refine sqL (some 59) Try.func21 #[.agg #[.int .i64 t356, .int .i64 t357], .slice A0 l0.length c0, .int .i64 (wrap64 (x7_3 + 13))] ?_; (with_reducible refine (laws_ofRest.calls k3 t356 t357 _ _ l0 (wrap64 (x7_3 + 13)) t369 _ ?side1 ?side2 A49.out).mono ?_); (case side1 => repeat (first | exact (Kd.C_below HR0.out HB.out) | (with_reducible refine Kd.C_alloc ?_ _) | (with_reducible refine Kd.C_drewN ?_ _) | (with_reducible refine Kd.C_drew ?_))); (case side2 => exact HC0.out); rintro e w79 ⟨rfl, hb⟩; refine ⟨_, rfl, ?_⟩; replace BK358 := sqb BK358 hb; replace BK359 := sqb BK359 hb; replace BK362 := sqb BK362 hb; replace HB := sqs HB hb; (try clear hb)) | ((with_reducible refine gate_callee (f := 67) rfl ?_); refine sqL (some 64) Try.func67 #[.int .i64 t353, .int .i64 t368, .int .i64 t369] ?_; (with_reducible refine (spec_NumDo.calls k3 t353 t368 t369 t370 t371 _ A50.out).mono ?_); rintro e w' ⟨rfl, ⟨nd, rfl⟩⟩; refine ⟨_, rfl, ?_⟩; obtain ⟨hcz80_0, hcz80_1, hfz80_0, hfz80_1⟩ := sqc2 BK358) | (go_at_call 23; (with_reducible refine (spec_RestHas.calls k3 t354 t355 t368 true _ A53.out).mono ?_); rintro e w81 ⟨rfl, hb⟩; replace BK358 := sqb BK358 hb; replace BK359 := sqb BK359 hb; replace BK362 := sqb BK362 hb; replace HB := sqs HB hb; (try clear hb); obtain ⟨hcz82_0, hcz82_1, hfz82_0, hfz82_1⟩ := sqc2 BK359) | (go_at_call 23; (with_reducible refine (spec_RestHas.calls k3 t356 t357 t369 true _ A55.out).mono ?_); rintro e w83 ⟨rfl, hb⟩; replace BK358 := sqb BK358 hb; replace BK359 := sqb BK359 hb; replace BK362 := sqb BK362 hb; replace HB := sqs HB hb; (try clear hb); obtain ⟨hcz84_0, hcz84_1, hfz84_0, hfz84_1⟩ := sqc2 BK362) | (go_at_call 68; (with_reducible refine (impl_RestHas.calls k3 t360 t361 t370 false _ A58.out).mono ?_); rintro e w85 ⟨rfl, hb⟩; replace BK358 := sqb BK358 hb; replace BK359 := sqb BK359 hb; replace BK362 := sqb BK362 hb; replace HB := sqs HB hb; (try clear hb)))
                                  go_ret
                                  exact sqe HB
                              · rw [if_neg c57] at H
                                have c57b0 : (t371 == 0) = false := beq_eq_false_iff_ne.mpr c57
                                have c57b1 : (t371 != 0) = true := bne_iff_ne.mpr c57
                                have H' := Aside0.mk H
                                clear H
                                have hnb86 := NB358_359.out
                                have hnc86 := NB359_358.out
                                have hnb87 := NB358_362.out
                                have hnc87 := NB362_358.out
                                obtain ⟨hcz88_0, hcz88_1, hfz88_0, hfz88_1⟩ := sqc2 BK358
                                go_wp2_with (first | ((with_reducible refine gate_callee (f := 21) rfl ?_); refine sqL (some 54) Try.func21 #[.agg #[.int .i64 t354, .int .i64 t355], .slice A0 l0.length c0, .int .i64 x7_3] ?_; (with_reducible refine (laws_ofRest.calls k3 t354 t355 _ _ l0 x7_3 t368 _ ?side1 ?side2 A48.out).mono ?_); (case side1 => repeat (first | exact (Kd.C_below HR0.out HB.out) | (with_reducible refine Kd.C_alloc ?_ _) | (with_reducible refine Kd.C_drewN ?_ _) | (with_reducible refine Kd.C_drew ?_))); (case side2 => exact HC0.out); rintro e w89 ⟨rfl, hb⟩; refine ⟨_, rfl, ?_⟩; replace BK358 := sqb BK358 hb; replace BK359 := sqb BK359 hb; replace BK362 := sqb BK362 hb; replace HB := sqs HB hb; (try clear hb); have hnb90 := NB359_362.out; have hnc90 := NB362_359.out; obtain ⟨hcz91_0, hcz91_1, hfz91_0, hfz91_1⟩ := sqc2 BK359) | ((with_reducible refine gate_callee (f := 21) rfl ?_); refine sqL (some 59) Try.func21 #[.agg #[.int .i64 t356, .int .i64 t357], .slice A0 l0.length c0, .int .i64 (wrap64 (x7_3 + 13))] ?_; (with_reducible refine (laws_ofRest.calls k3 t356 t357 _ _ l0 (wrap64 (x7_3 + 13)) t369 _ ?side1 ?side2 A49.out).mono ?_); (case side1 => repeat (first | exact (Kd.C_below HR0.out HB.out) | (with_reducible refine Kd.C_alloc ?_ _) | (with_reducible refine Kd.C_drewN ?_ _) | (with_reducible refine Kd.C_drew ?_))); (case side2 => exact HC0.out); rintro e w92 ⟨rfl, hb⟩; refine ⟨_, rfl, ?_⟩; replace BK358 := sqb BK358 hb; replace BK359 := sqb BK359 hb; replace BK362 := sqb BK362 hb; replace HB := sqs HB hb; (try clear hb)) | ((with_reducible refine gate_callee (f := 67) rfl ?_); refine sqL (some 64) Try.func67 #[.int .i64 t353, .int .i64 t368, .int .i64 t369] ?_; (with_reducible refine (spec_NumDo.calls k3 t353 t368 t369 t370 t371 _ A50.out).mono ?_); rintro e w' ⟨rfl, ⟨nd, rfl⟩⟩; refine ⟨_, rfl, ?_⟩; obtain ⟨hcz93_0, hcz93_1, hfz93_0, hfz93_1⟩ := sqc2 BK358) | (go_at_call 23; (with_reducible refine (spec_RestHas.calls k3 t354 t355 t368 true _ A53.out).mono ?_); rintro e w94 ⟨rfl, hb⟩; replace BK358 := sqb BK358 hb; replace BK359 := sqb BK359 hb; replace BK362 := sqb BK362 hb; replace HB := sqs HB hb; (try clear hb); obtain ⟨hcz95_0, hcz95_1, hfz95_0, hfz95_1⟩ := sqc2 BK359) | (go_at_call 23; (with_reducible refine (spec_RestHas.calls k3 t356 t357 t369 true _ A55.out).mono ?_); rintro e w96 ⟨rfl, hb⟩; replace BK358 := sqb BK358 hb; replace BK359 := sqb BK359 hb; replace BK362 := sqb BK362 hb; replace HB := sqs HB hb; (try clear hb)))
                                go_roundg k3
                                case measure => have := HJ4.out; have := HJ27.out; have := HK3.out; omega
                                case rel => exact ⟨(wrap64 (x7_3 + 1)), (by first | rfl | (simp; done) | (simp [*]; done)), H', ⟨by have := HJ4.out; have := HJ27.out; have := HK3.out; omega⟩, sqk BK358, sqk BK359, sqk BK362, sqh HB⟩
                            · replace c56 := Bool.eq_false_iff.mpr c56
                              subst c56
                              have H1 : (laws_FnRestDo.l0 k3 l0 t353 (wrap64 (x7_3 + 1)) t354 t355 t356 t357 t360 t361) = some r := by rw [if_neg (show ¬ (false = true) by decide)] at H; exact H
                              clear H
                              have H := H1
                              clear H1
                              have H' := Aside0.mk H
                              clear H
                              have hnb97 := NB358_359.out
                              have hnc97 := NB359_358.out
                              have hnb98 := NB358_362.out
                              have hnc98 := NB362_358.out
                              obtain ⟨hcz99_0, hcz99_1, hfz99_0, hfz99_1⟩ := sqc2 BK358
                              go_wp2_with (first | ((with_reducible refine gate_callee (f := 21) rfl ?_); refine sqL (some 54) Try.func21 #[.agg #[.int .i64 t354, .int .i64 t355], .slice A0 l0.length c0, .int .i64 x7_3] ?_; (with_reducible refine (laws_ofRest.calls k3 t354 t355 _ _ l0 x7_3 t368 _ ?side1 ?side2 A48.out).mono ?_); (case side1 => repeat (first | exact (Kd.C_below HR0.out HB.out) | (with_reducible refine Kd.C_alloc ?_ _) | (with_reducible refine Kd.C_drewN ?_ _) | (with_reducible refine Kd.C_drew ?_))); (case side2 => exact HC0.out); rintro e w100 ⟨rfl, hb⟩; refine ⟨_, rfl, ?_⟩; replace BK358 := sqb BK358 hb; replace BK359 := sqb BK359 hb; replace BK362 := sqb BK362 hb; replace HB := sqs HB hb; (try clear hb); have hnb101 := NB359_362.out; have hnc101 := NB362_359.out; obtain ⟨hcz102_0, hcz102_1, hfz102_0, hfz102_1⟩ := sqc2 BK359) | ((with_reducible refine gate_callee (f := 21) rfl ?_); refine sqL (some 59) Try.func21 #[.agg #[.int .i64 t356, .int .i64 t357], .slice A0 l0.length c0, .int .i64 (wrap64 (x7_3 + 13))] ?_; (with_reducible refine (laws_ofRest.calls k3 t356 t357 _ _ l0 (wrap64 (x7_3 + 13)) t369 _ ?side1 ?side2 A49.out).mono ?_); (case side1 => repeat (first | exact (Kd.C_below HR0.out HB.out) | (with_reducible refine Kd.C_alloc ?_ _) | (with_reducible refine Kd.C_drewN ?_ _) | (with_reducible refine Kd.C_drew ?_))); (case side2 => exact HC0.out); rintro e w103 ⟨rfl, hb⟩; refine ⟨_, rfl, ?_⟩; replace BK358 := sqb BK358 hb; replace BK359 := sqb BK359 hb; replace BK362 := sqb BK362 hb; replace HB := sqs HB hb; (try clear hb)) | ((with_reducible refine gate_callee (f := 67) rfl ?_); refine sqL (some 64) Try.func67 #[.int .i64 t353, .int .i64 t368, .int .i64 t369] ?_; (with_reducible refine (spec_NumDo.calls k3 t353 t368 t369 t370 t371 _ A50.out).mono ?_); rintro e w' ⟨rfl, ⟨nd, rfl⟩⟩; refine ⟨_, rfl, ?_⟩; obtain ⟨hcz104_0, hcz104_1, hfz104_0, hfz104_1⟩ := sqc2 BK358) | (go_at_call 23; (with_reducible refine (spec_RestHas.calls k3 t354 t355 t368 true _ A53.out).mono ?_); rintro e w105 ⟨rfl, hb⟩; replace BK358 := sqb BK358 hb; replace BK359 := sqb BK359 hb; replace BK362 := sqb BK362 hb; replace HB := sqs HB hb; (try clear hb); obtain ⟨hcz106_0, hcz106_1, hfz106_0, hfz106_1⟩ := sqc2 BK359) | (go_at_call 23; (with_reducible refine (spec_RestHas.calls k3 t356 t357 t369 false _ A55.out).mono ?_); rintro e w107 ⟨rfl, hb⟩; replace BK358 := sqb BK358 hb; replace BK359 := sqb BK359 hb; replace BK362 := sqb BK362 hb; replace HB := sqs HB hb; (try clear hb)))
                              go_roundg k3
                              case measure => have := HJ4.out; have := HJ27.out; have := HK3.out; omega
                              case rel => exact ⟨(wrap64 (x7_3 + 1)), (by first | rfl | (simp; done) | (simp [*]; done)), H', ⟨by have := HJ4.out; have := HJ27.out; have := HK3.out; omega⟩, sqk BK358, sqk BK359, sqk BK362, sqh HB⟩
                          · replace c54 := Bool.eq_false_iff.mpr c54
                            subst c54
                            have H1 : (laws_FnRestDo.l0 k3 l0 t353 (wrap64 (x7_3 + 1)) t354 t355 t356 t357 t360 t361) = some r := by rw [if_neg (show ¬ (false = true) by decide)] at H; exact H
                            clear H
                            have H := H1
                            clear H1
                            have H' := Aside0.mk H
                            clear H
                            have hnb108 := NB358_359.out
                            have hnc108 := NB359_358.out
                            have hnb109 := NB358_362.out
                            have hnc109 := NB362_358.out
                            obtain ⟨hcz110_0, hcz110_1, hfz110_0, hfz110_1⟩ := sqc2 BK358
                            go_wp2_with (first | ((with_reducible refine gate_callee (f := 21) rfl ?_); refine sqL (some 54) Try.func21 #[.agg #[.int .i64 t354, .int .i64 t355], .slice A0 l0.length c0, .int .i64 x7_3] ?_; (with_reducible refine (laws_ofRest.calls k3 t354 t355 _ _ l0 x7_3 t368 _ ?side1 ?side2 A48.out).mono ?_); (case side1 => repeat (first | exact (Kd.C_below HR0.out HB.out) | (with_reducible refine Kd.C_alloc ?_ _) | (with_reducible refine Kd.C_drewN ?_ _) | (with_reducible refine Kd.C_drew ?_))); (case side2 => exact HC0.out); rintro e w111 ⟨rfl, hb⟩; refine ⟨_, rfl, ?_⟩; replace BK358 := sqb BK358 hb; replace BK359 := sqb BK359 hb; replace BK362 := sqb BK362 hb; replace HB := sqs HB hb; (try clear hb); have hnb112 := NB359_362.out; have hnc112 := NB362_359.out; obtain ⟨hcz113_0, hcz113_1, hfz113_0, hfz113_1⟩ := sqc2 BK359) | ((with_reducible refine gate_callee (f := 21) rfl ?_); refine sqL (some 59) Try.func21 #[.agg #[.int .i64 t356, .int .i64 t357], .slice A0 l0.length c0, .int .i64 (wrap64 (x7_3 + 13))] ?_; (with_reducible refine (laws_ofRest.calls k3 t356 t357 _ _ l0 (wrap64 (x7_3 + 13)) t369 _ ?side1 ?side2 A49.out).mono ?_); (case side1 => repeat (first | exact (Kd.C_below HR0.out HB.out) | (with_reducible refine Kd.C_alloc ?_ _) | (with_reducible refine Kd.C_drewN ?_ _) | (with_reducible refine Kd.C_drew ?_))); (case side2 => exact HC0.out); rintro e w114 ⟨rfl, hb⟩; refine ⟨_, rfl, ?_⟩; replace BK358 := sqb BK358 hb; replace BK359 := sqb BK359 hb; replace BK362 := sqb BK362 hb; replace HB := sqs HB hb; (try clear hb)) | ((with_reducible refine gate_callee (f := 67) rfl ?_); refine sqL (some 64) Try.func67 #[.int .i64 t353, .int .i64 t368, .int .i64 t369] ?_; (with_reducible refine (spec_NumDo.calls k3 t353 t368 t369 t370 t371 _ A50.out).mono ?_); rintro e w' ⟨rfl, ⟨nd, rfl⟩⟩; refine ⟨_, rfl, ?_⟩; obtain ⟨hcz115_0, hcz115_1, hfz115_0, hfz115_1⟩ := sqc2 BK358) | (go_at_call 23; (with_reducible refine (spec_RestHas.calls k3 t354 t355 t368 false _ A53.out).mono ?_); rintro e w116 ⟨rfl, hb⟩; replace BK358 := sqb BK358 hb; replace BK359 := sqb BK359 hb; replace BK362 := sqb BK362 hb; replace HB := sqs HB hb; (try clear hb)))
                            go_roundg k3
                            case measure => have := HJ4.out; have := HJ27.out; have := HK3.out; omega
                            case rel => exact ⟨(wrap64 (x7_3 + 1)), (by first | rfl | (simp; done) | (simp [*]; done)), H', ⟨by have := HJ4.out; have := HJ27.out; have := HK3.out; omega⟩, sqk BK358, sqk BK359, sqk BK362, sqh HB⟩
                        · rw [if_neg c52] at H
                          have c52b0 : decide (t353 ≤ 13) = false := decide_eq_false c52
                          clear c52
                          have H' := Aside0.mk H
                          clear H
                          have hnb117 := NB358_359.out
                          have hnc117 := NB359_358.out
                          have hnb118 := NB358_362.out
                          have hnc118 := NB362_358.out
                          obtain ⟨hcz119_0, hcz119_1, hfz119_0, hfz119_1⟩ := sqc2 BK358
                          go_wp2_with (first | ((with_reducible refine gate_callee (f := 21) rfl ?_); refine sqL (some 54) Try.func21 #[.agg #[.int .i64 t354, .int .i64 t355], .slice A0 l0.length c0, .int .i64 x7_3] ?_; (with_reducible refine (laws_ofRest.calls k3 t354 t355 _ _ l0 x7_3 t368 _ ?side1 ?side2 A48.out).mono ?_); (case side1 => repeat (first | exact (Kd.C_below HR0.out HB.out) | (with_reducible refine Kd.C_alloc ?_ _) | (with_reducible refine Kd.C_drewN ?_ _) | (with_reducible refine Kd.C_drew ?_))); (case side2 => exact HC0.out); rintro e w120 ⟨rfl, hb⟩; refine ⟨_, rfl, ?_⟩; replace BK358 := sqb BK358 hb; replace BK359 := sqb BK359 hb; replace BK362 := sqb BK362 hb; replace HB := sqs HB hb; (try clear hb); have hnb121 := NB359_362.out; have hnc121 := NB362_359.out; obtain ⟨hcz122_0, hcz122_1, hfz122_0, hfz122_1⟩ := sqc2 BK359) | ((with_reducible refine gate_callee (f := 21) rfl ?_); refine sqL (some 59) Try.func21 #[.agg #[.int .i64 t356, .int .i64 t357], .slice A0 l0.length c0, .int .i64 (wrap64 (x7_3 + 13))] ?_; (with_reducible refine (laws_ofRest.calls k3 t356 t357 _ _ l0 (wrap64 (x7_3 + 13)) t369 _ ?side1 ?side2 A49.out).mono ?_); (case side1 => repeat (first | exact (Kd.C_below HR0.out HB.out) | (with_reducible refine Kd.C_alloc ?_ _) | (with_reducible refine Kd.C_drewN ?_ _) | (with_reducible refine Kd.C_drew ?_))); (case side2 => exact HC0.out); rintro e w123 ⟨rfl, hb⟩; refine ⟨_, rfl, ?_⟩; replace BK358 := sqb BK358 hb; replace BK359 := sqb BK359 hb; replace BK362 := sqb BK362 hb; replace HB := sqs HB hb; (try clear hb)) | ((with_reducible refine gate_callee (f := 67) rfl ?_); refine sqL (some 64) Try.func67 #[.int .i64 t353, .int .i64 t368, .int .i64 t369] ?_; (with_reducible refine (spec_NumDo.calls k3 t353 t368 t369 t370 t371 _ A50.out).mono ?_); rintro e w' ⟨rfl, ⟨nd, rfl⟩⟩; refine ⟨_, rfl, ?_⟩))
                          go_roundg k3
                          case measure => have := HJ4.out; have := HJ27.out; have := HK3.out; omega
                          case rel => exact ⟨(wrap64 (x7_3 + 1)), (by first | rfl | (simp; done) | (simp [*]; done)), H', ⟨by have := HJ4.out; have := HJ27.out; have := HK3.out; omega⟩, sqk BK358, sqk BK359, sqk BK362, sqh HB⟩
                      · rw [if_neg c51] at H
                        have c51b0 : decide (1 ≤ t353) = false := decide_eq_false c51
                        clear c51
                        have H' := Aside0.mk H
                        clear H
                        have hnb124 := NB358_359.out
                        have hnc124 := NB359_358.out
                        have hnb125 := NB358_362.out
                        have hnc125 := NB362_358.out
                        obtain ⟨hcz126_0, hcz126_1, hfz126_0, hfz126_1⟩ := sqc2 BK358
                        go_wp2_with (first | ((with_reducible refine gate_callee (f := 21) rfl ?_); refine sqL (some 54) Try.func21 #[.agg #[.int .i64 t354, .int .i64 t355], .slice A0 l0.length c0, .int .i64 x7_3] ?_; (with_reducible refine (laws_ofRest.calls k3 t354 t355 _ _ l0 x7_3 t368 _ ?side1 ?side2 A48.out).mono ?_); (case side1 => repeat (first | exact (Kd.C_below HR0.out HB.out) | (with_reducible refine Kd.C_alloc ?_ _) | (with_reducible refine Kd.C_drewN ?_ _) | (with_reducible refine Kd.C_drew ?_))); (case side2 => exact HC0.out); rintro e w127 ⟨rfl, hb⟩; refine ⟨_, rfl, ?_⟩; replace BK358 := sqb BK358 hb; replace BK359 := sqb BK359 hb; replace BK362 := sqb BK362 hb; replace HB := sqs HB hb; (try clear hb); have hnb128 := NB359_362.out; have hnc128 := NB362_359.out; obtain ⟨hcz129_0, hcz129_1, hfz129_0, hfz129_1⟩ := sqc2 BK359) | ((with_reducible refine gate_callee (f := 21) rfl ?_); refine sqL (some 59) Try.func21 #[.agg #[.int .i64 t356, .int .i64 t357], .slice A0 l0.length c0, .int .i64 (wrap64 (x7_3 + 13))] ?_; (with_reducible refine (laws_ofRest.calls k3 t356 t357 _ _ l0 (wrap64 (x7_3 + 13)) t369 _ ?side1 ?side2 A49.out).mono ?_); (case side1 => repeat (first | exact (Kd.C_below HR0.out HB.out) | (with_reducible refine Kd.C_alloc ?_ _) | (with_reducible refine Kd.C_drewN ?_ _) | (with_reducible refine Kd.C_drew ?_))); (case side2 => exact HC0.out); rintro e w130 ⟨rfl, hb⟩; refine ⟨_, rfl, ?_⟩; replace BK358 := sqb BK358 hb; replace BK359 := sqb BK359 hb; replace BK362 := sqb BK362 hb; replace HB := sqs HB hb; (try clear hb)) | ((with_reducible refine gate_callee (f := 67) rfl ?_); refine sqL (some 64) Try.func67 #[.int .i64 t353, .int .i64 t368, .int .i64 t369] ?_; (with_reducible refine (spec_NumDo.calls k3 t353 t368 t369 t370 t371 _ A50.out).mono ?_); rintro e w' ⟨rfl, ⟨nd, rfl⟩⟩; refine ⟨_, rfl, ?_⟩))
                        go_roundg k3
                        case measure => have := HJ4.out; have := HJ27.out; have := HK3.out; omega
                        case rel => exact ⟨(wrap64 (x7_3 + 1)), (by first | rfl | (simp; done) | (simp [*]; done)), H', ⟨by have := HJ4.out; have := HJ27.out; have := HK3.out; omega⟩, sqk BK358, sqk BK359, sqk BK362, sqh HB⟩
                    · rw [if_neg c47] at H
                      have c47b0 : decide (x7_3 < 8) = false := decide_eq_false c47
                      clear c47
                      obtain rfl := Option.some.inj H
                      go_wp2
                      go_ret
                      exact sqe HB

/-- THE ONE PURE STATEMENT of laws_FnRestDo: yours. -/
theorem laws_FnRestDo.walk (P : laws_FnRestDo.Pure) (a0 : Option Addr) (len0 cap0 : Nat) (z0 : List Int) (w : World) (w0 : (a0 = none ∧ len0 = 0 ∧ cap0 = 0 ∧ z0 = []) ∨ ∃ x, a0 = some x ∧ len0 ≤ cap0 ∧ cap0 ≤ maxLen ∧ z0.length = cap0 ∧ (∀ i, i < z0.length → w.cell? (x.add i) = some (.int .u8 (z0.getD i 0))) ∧ ∀ n ∈ z0, (Lit.int .u8 n).wf = true) (y0 : len0 * 1 ≤ 140737488351232) :
    Calls Try.prog 10 #[.slice a0 len0 cap0] w fun e w' => e = .returned (.bool true) ∧ Below w.heap.size w w' := by
  obtain ⟨l0, rfl, hr0, hm0, hw0, hc0⟩ := ReadsInt.ofRowC w0
  obtain ⟨k, h⟩ := P l0 hm0 y0 hw0
  refine (laws_FnRestDo.calls k _ _ l0 true w (Kd.C_of_reads (d := (0 : Int)) (h1 := fun _ => rfl) hr0) hc0 h).mono ?_
  rintro e w' ⟨rfl, hd⟩
  exact ⟨rfl, hd⟩

end Go.Proofs.Ytkekcenlleebeaa.PFnRestDo
