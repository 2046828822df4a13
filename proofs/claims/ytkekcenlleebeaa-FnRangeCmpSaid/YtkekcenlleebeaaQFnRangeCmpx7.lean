/- Functions of the program as plain Lean functions, and that calls of them come to what these tell. Conditions: those in each law. -/
import Derived.Test.YtkekcenlleebeaaSq
import Derived.Test.YtkekcenlleebeaaDFnRangeCmp
import Derived.Test.YtkekcenlleebeaaQFnRangeCmpx0
import Derived.Test.YtkekcenlleebeaaQFnRangeCmpx4
import Derived.Test.YtkekcenlleebeaaQFnRangeCmpx6
namespace Go.Proofs.Ytkekcenlleebeaa.PFnRangeCmp
open Go.RowKit Go.Proofs.Ytkekcenlleebeaa.Sq Go.Proofs.YtkekcenlleebeaaW.PrintWords Go.Proofs.YtkekcenlleebeaaW.PrintLast Go.Proofs.YtkekcenlleebeaaW.PrintMore
attribute [local go_sem] max2_int min2_int max_two min_two max_three min_three max_four min_four   -- for this text's walks alone
set_option linter.unusedVariables false
set_option linter.unusedSimpArgs false

/-! ### spec_DrawRangeCmp: function 42 -/
theorem spec_DrawRangeCmp.mono : ∀ a0 k, LeO (spec_DrawRangeCmp.f k a0) (spec_DrawRangeCmp.f (k + 1) a0) := by
  intro a0 k
  unfold spec_DrawRangeCmp.f
  repeat' first
      | (with_reducible exact spec_l1Rd_pick.mono _ _ _ _)
      | (with_reducible exact spec_l8Two.mono _ _ _)
      | (with_reducible exact LeO.refl _)
      | (with_reducible exact LeO.none _)
      | (with_reducible refine LeO.ite ?_ ?_)
      | (with_reducible refine LeO.bind ?_ (fun _ => ?_))
      | exact spec_l1Rd_pick.mono _ _ _ _
      | exact spec_l8Two.mono _ _ _
      | exact LeO.none _
      | refine LeO.ite ?_ ?_
      | refine LeO.bind ?_ (fun _ => ?_)
set_option maxHeartbeats 8000000 in
set_option maxRecDepth 100000 in
theorem spec_DrawRangeCmp.calls (k : Nat) (A0 : Option Addr) (c0 : Nat) (l0 : List Int) (r1 : Int) (r2 : Int) (r3 : Int) (r4 : Int) (r5 : Int) (w : World) (hr0 : Kd.C (Kd.int .u8) w A0 l0.length l0) (hc0 : l0.length ≤ c0) (h : spec_DrawRangeCmp.f k l0 = some (r1, r2, r3, r4, r5)) :
    Calls Try.prog 42 #[.slice A0 l0.length c0] w fun e w' => e = .returned (.tuple #[.int .i64 r1, .agg #[.int .i64 r2, .int .i64 r3], .agg #[.int .i64 r4, .int .i64 r5]]) ∧ Below w.heap.size w w' := by
  have hu24 := Try.underlying24
  have HR0 := Aside0.mk hr0
  have HC0 := Aside0.mk hc0
  clear hr0 hc0
  have HB := Aside0.mk (Below.refl w.heap.size w)
  have H : ((spec_l1Open.f l0).bind fun bt217 => ((spec_l1Rd_pick.f k bt217.1 bt217.2 6).bind fun bt220 => ((spec_l1Rd_pick.f k bt217.1 bt220.2 20).bind fun bt222 => (if bt222.1 = 0 then ((spec_l1Rd_pick.f k bt217.1 bt222.2 9).bind fun bt224 => ((spec_l8Two.f k bt217.1 bt224.2).bind fun bt226 => (some (wrap64 (bt224.1 - 1), bt226.1, bt226.2.1, bt226.2.2.1, bt226.2.2.2.1)))) else ((spec_l8Two.f k bt217.1 bt222.2).bind fun bt233 => (some (wrap64 (1 + bt220.1), bt233.1, bt233.2.1, bt233.2.2.1, bt233.2.2.2.1))))))) = some (r1, r2, r3, r4, r5) := h
  clear h
  replace H := Option.bind_eq_some_iff.mp H
  obtain ⟨⟨t217, t218⟩, A20, H⟩ := H
  replace H : ((spec_l1Rd_pick.f k t217 t218 6).bind fun bt220 => ((spec_l1Rd_pick.f k t217 bt220.2 20).bind fun bt222 => (if bt222.1 = 0 then ((spec_l1Rd_pick.f k t217 bt222.2 9).bind fun bt224 => ((spec_l8Two.f k t217 bt224.2).bind fun bt226 => (some (wrap64 (bt224.1 - 1), bt226.1, bt226.2.1, bt226.2.2.1, bt226.2.2.2.1)))) else ((spec_l8Two.f k t217 bt222.2).bind fun bt233 => (some (wrap64 (1 + bt220.1), bt233.1, bt233.2.1, bt233.2.2.1, bt233.2.2.2.1)))))) = some (r1, r2, r3, r4, r5) := H
  have A2 := Aside0.mk A20
  clear A20
  replace H := Option.bind_eq_some_iff.mp H
  obtain ⟨⟨t220, t221⟩, A30, H⟩ := H
  replace H : ((spec_l1Rd_pick.f k t217 t221 20).bind fun bt222 => (if bt222.1 = 0 then ((spec_l1Rd_pick.f k t217 bt222.2 9).bind fun bt224 => ((spec_l8Two.f k t217 bt224.2).bind fun bt226 => (some (wrap64 (bt224.1 - 1), bt226.1, bt226.2.1, bt226.2.2.1, bt226.2.2.2.1)))) else ((spec_l8Two.f k t217 bt222.2).bind fun bt233 => (some (wrap64 (1 + t220), bt233.1, bt233.2.1, bt233.2.2.1, bt233.2.2.2.1))))) = some (r1, r2, r3, r4, r5) := H
  have A3 := Aside0.mk A30
  clear A30
  replace H := Option.bind_eq_some_iff.mp H
  obtain ⟨⟨t222, t223⟩, A40, H⟩ := H
  replace H : (if t222 = 0 then ((spec_l1Rd_pick.f k t217 t223 9).bind fun bt224 => ((spec_l8Two.f k t217 bt224.2).bind fun bt226 => (some (wrap64 (bt224.1 - 1), bt226.1, bt226.2.1, bt226.2.2.1, bt226.2.2.2.1)))) else ((spec_l8Two.f k t217 t223).bind fun bt233 => (some (wrap64 (1 + t220), bt233.1, bt233.2.1, bt233.2.2.1, bt233.2.2.2.1)))) = some (r1, r2, r3, r4, r5) := H
  have A4 := Aside0.mk A40
  clear A40
  by_cases c5 : t222 = 0
  · rw [if_pos c5] at H
    have c5b0 : (t222 == 0) = true := beq_iff_eq.mpr c5
    have c5b1 : (t222 != 0) = false := bne_eq_false_iff_eq.mpr c5
    clear c5
    replace H := Option.bind_eq_some_iff.mp H
    obtain ⟨⟨t224, t225⟩, A60, H⟩ := H
    replace H : ((spec_l8Two.f k t217 t225).bind fun bt226 => (some (wrap64 (t224 - 1), bt226.1, bt226.2.1, bt226.2.2.1, bt226.2.2.2.1))) = some (r1, r2, r3, r4, r5) := H
    have A6 := Aside0.mk A60
    clear A60
    replace H := Option.bind_eq_some_iff.mp H
    obtain ⟨⟨t226, t227, t228, t229, t230⟩, A70, H⟩ := H
    replace H : (some (wrap64 (t224 - 1), t226, t227, t228, t229)) = some (r1, r2, r3, r4, r5) := H
    have A7 := Aside0.mk A70
    clear A70
    simp only [Option.some.injEq, Prod.mk.injEq] at H
    obtain ⟨rfl, rfl, rfl, rfl, rfl⟩ := H
    go_enter Try.func42, Try.ntmps42
    try go_wp2_with (first | ((with_reducible refine gate_dst (N := 3) rfl ?_); refine sqx 3 #[.int .i64 0, .int .i64 0] 24 ?_; intro gb215 hg w8 hbox hb; have BK215 := Aside0.mk (hbox); have GW215 := sqg HB hg; have GE215 := sqg HB hg; replace HB := sqs HB hb; clear hb hbox hg) | ((with_reducible refine gate_dst (N := 4) rfl ?_); refine sqx 4 #[.int .i64 0, .int .i64 0] 24 ?_; intro gb216 hg w9 hbox hb; have BK216 := Aside0.mk (hbox); have GW216 := sqg HB hg; have GE216 := sqg HB hg; have NB215_216 := sqn BK215 hg; have NB216_215 := sqm BK215 hg; replace BK215 := sqb BK215 hb; replace HB := sqs HB hb; clear hb hbox hg) | ((with_reducible refine gate_callee (f := 92) rfl ?_); refine sqL (some 10) Try.func92 #[.slice A0 l0.length c0] ?_; (with_reducible refine (spec_l1Open.calls _ _ l0 t217 t218 w _ ?side1 ?side2 ?side3 A2.out).mono ?_); (case side1 => repeat (first | (with_reducible first | exact HB.out | apply below_alloc | apply pw_below_drewN | apply below_drew1 | refine below_set ?_ GE215.out | refine below_set ?_ GE216.out) | exact HB.out)); (case side2 => exact HR0.out); (case side3 => exact HC0.out); rintro e w10 ⟨g219, rfl, hi, hb, hb2⟩; refine ⟨_, rfl, ?_⟩; have n0_ := Aside0.mk (blk_below (g := gb215) (o := .cells #[.int .i64 0, .int .i64 0] 24 (0, 0)) (by refine sqt ?_; exact BK215.out) hb2); have n1_ := Aside0.mk (blk_below (g := gb216) (o := .cells #[.int .i64 0, .int .i64 0] 24 (0, 0)) (by refine sqt ?_; exact BK216.out) hb2); have n2_ := Aside0.mk (hb); have n3_ := Aside0.mk (hi); have n4_ := Aside0.mk (IsS161.ne_blk hi (blk_below (g := gb215) (o := .cells #[.int .i64 0, .int .i64 0] 24 (0, 0)) (by refine sqt ?_; exact BK215.out) hb2) (by decide)); have n5_ := Aside0.mk (Ne.symm (IsS161.ne_blk hi (blk_below (g := gb215) (o := .cells #[.int .i64 0, .int .i64 0] 24 (0, 0)) (by refine sqt ?_; exact BK215.out) hb2) (by decide))); have n6_ := Aside0.mk (IsS161.ne_blk hi (blk_below (g := gb216) (o := .cells #[.int .i64 0, .int .i64 0] 24 (0, 0)) (by refine sqt ?_; exact BK216.out) hb2) (by decide)); have n7_ := Aside0.mk (Ne.symm (IsS161.ne_blk hi (blk_below (g := gb216) (o := .cells #[.int .i64 0, .int .i64 0] 24 (0, 0)) (by refine sqt ?_; exact BK216.out) hb2) (by decide))); clear BK215; clear BK216; clear HB; have BK215 := n0_; have BK216 := n1_; have HB := n2_; have HI219 := n3_; have NB219_215 := n4_; have NB215_219 := n5_; have NB219_216 := n6_; have NB216_219 := n7_; clear n0_ n1_ n2_ n3_ n4_ n5_ n6_ n7_; (try clear hb); (try clear hb2); (try clear hk); (try clear hi)) | ((with_reducible refine gate_callee (f := 109) rfl ?_); refine sqL (some 12) Try.func109 #[.pointer (some ⟨g219, 0, none⟩), .int .i64 6] ?_; (with_reducible refine (spec_l1Rd_pick.calls k g219 t217 t218 6 t220 t221 w _ ?side1 ?side2 A3.out).mono ?_); (case side1 => repeat (first | (with_reducible first | exact HI219.out | apply IsS161.alloc | apply IsS161.drewN | apply IsS161.drew | apply IsS161.set_1 | refine IsS161.far ?_ NB219_215.out _ | refine IsS161.far ?_ NB219_216.out _) | exact HI219.out)); (case side2 => repeat (first | (with_reducible first | exact HB.out | apply below_alloc | apply pw_below_drewN | apply below_drew1 | refine below_set ?_ (IsS161.ge HI219.out) | refine below_set ?_ GE215.out | refine below_set ?_ GE216.out) | exact HB.out)); rintro e w11 ⟨rfl, hi, hb, hk⟩; refine ⟨_, rfl, ?_⟩; have n0_ := Aside0.mk (KeepBut.blk hk (g' := gb215) (o := .cells #[.int .i64 0, .int .i64 0] 24 (0, 0)) (by refine sqt ?_; exact BK215.out) NB215_219.out (by simp)); have n1_ := Aside0.mk (KeepBut.blk hk (g' := gb216) (o := .cells #[.int .i64 0, .int .i64 0] 24 (0, 0)) (by refine sqt ?_; exact BK216.out) NB216_219.out (by simp)); have n2_ := Aside0.mk (hb); have n3_ := Aside0.mk (hi); clear BK215; clear BK216; clear HB; clear HI219; have BK215 := n0_; have BK216 := n1_; have HB := n2_; have HI219 := n3_; clear n0_ n1_ n2_ n3_; (try clear hb); (try clear hb2); (try clear hk); (try clear hi)) | ((with_reducible refine gate_callee (f := 109) rfl ?_); refine sqL (some 15) Try.func109 #[.pointer (some ⟨g219, 0, none⟩), .int .i64 20] ?_; (with_reducible refine (spec_l1Rd_pick.calls k g219 t217 t221 20 t222 t223 w _ ?side1 ?side2 A4.out).mono ?_); (case side1 => repeat (first | (with_reducible first | exact HI219.out | apply IsS161.alloc | apply IsS161.drewN | apply IsS161.drew | apply IsS161.set_1 | refine IsS161.far ?_ NB219_215.out _ | refine IsS161.far ?_ NB219_216.out _) | exact HI219.out)); (case side2 => repeat (first | (with_reducible first | exact HB.out | apply below_alloc | apply pw_below_drewN | apply below_drew1 | refine below_set ?_ (IsS161.ge HI219.out) | refine below_set ?_ GE215.out | refine below_set ?_ GE216.out) | exact HB.out)); rintro e w12 ⟨rfl, hi, hb, hk⟩; refine ⟨_, rfl, ?_⟩; have n0_ := Aside0.mk (KeepBut.blk hk (g' := gb215) (o := .cells #[.int .i64 0, .int .i64 0] 24 (0, 0)) (by refine sqt ?_; exact BK215.out) NB215_219.out (by simp)); have n1_ := Aside0.mk (KeepBut.blk hk (g' := gb216) (o := .cells #[.int .i64 0, .int .i64 0] 24 (0, 0)) (by refine sqt ?_; exact BK216.out) NB216_219.out (by simp)); have n2_ := Aside0.mk (hb); have n3_ := Aside0.mk (hi); clear BK215; clear BK216; clear HB; clear HI219; have BK215 := n0_; have BK216 := n1_; have HB := n2_; have HI219 := n3_; clear n0_ n1_ n2_ n3_; (try clear hb); (try clear hb2); (try clear hk); (try clear hi)) | ((with_reducible refine gate_callee (f := 109) rfl ?_); refine sqL (some 18) Try.func109 #[.pointer (some ⟨g219, 0, none⟩), .int .i64 9] ?_; (with_reducible refine (spec_l1Rd_pick.calls k g219 t217 t223 9 t224 t225 w _ ?side1 ?side2 A6.out).mono ?_); (case side1 => repeat (first | (with_reducible first | exact HI219.out | apply IsS161.alloc | apply IsS161.drewN | apply IsS161.drew | apply IsS161.set_1 | refine IsS161.far ?_ NB219_215.out _ | refine IsS161.far ?_ NB219_216.out _) | exact HI219.out)); (case side2 => repeat (first | (with_reducible first | exact HB.out | apply below_alloc | apply pw_below_drewN | apply below_drew1 | refine below_set ?_ (IsS161.ge HI219.out) | refine below_set ?_ GE215.out | refine below_set ?_ GE216.out) | exact HB.out)); rintro e w13 ⟨rfl, hi, hb, hk⟩; refine ⟨_, rfl, ?_⟩; have n0_ := Aside0.mk (KeepBut.blk hk (g' := gb215) (o := .cells #[.int .i64 0, .int .i64 0] 24 (0, 0)) (by refine sqt ?_; exact BK215.out) NB215_219.out (by simp)); have n1_ := Aside0.mk (KeepBut.blk hk (g' := gb216) (o := .cells #[.int .i64 0, .int .i64 0] 24 (0, 0)) (by refine sqt ?_; exact BK216.out) NB216_219.out (by simp)); have n2_ := Aside0.mk (hb); have n3_ := Aside0.mk (hi); clear BK215; clear BK216; clear HB; clear HI219; have BK215 := n0_; have BK216 := n1_; have HB := n2_; have HI219 := n3_; clear n0_ n1_ n2_ n3_; (try clear hb); (try clear hb2); (try clear hk); (try clear hi)) | ((with_reducible refine gate_callee (f := 125) rfl ?_); refine sqL (some 22) Try.func125 #[.pointer (some ⟨g219, 0, none⟩)] ?_; (with_reducible refine (spec_l8Two.calls k g219 t217 t225 t226 t227 t228 t229 t230 w _ ?side1 ?side2 A7.out).mono ?_); (case side1 => repeat (first | (with_reducible first | exact HI219.out | apply IsS161.alloc | apply IsS161.drewN | apply IsS161.drew | apply IsS161.set_1 | refine IsS161.far ?_ NB219_215.out _ | refine IsS161.far ?_ NB219_216.out _) | exact HI219.out)); (case side2 => repeat (first | (with_reducible first | exact HB.out | apply below_alloc | apply pw_below_drewN | apply below_drew1 | refine below_set ?_ (IsS161.ge HI219.out) | refine below_set ?_ GE215.out | refine below_set ?_ GE216.out) | exact HB.out)); rintro e w14 ⟨rfl, hi, hb, hk⟩; refine ⟨_, rfl, ?_⟩; have n0_ := Aside0.mk (KeepBut.blk hk (g' := gb215) (o := .cells #[.int .i64 0, .int .i64 0] 24 (0, 0)) (by refine sqt ?_; exact BK215.out) NB215_219.out (by simp)); have n1_ := Aside0.mk (KeepBut.blk hk (g' := gb216) (o := .cells #[.int .i64 0, .int .i64 0] 24 (0, 0)) (by refine sqt ?_; exact BK216.out) NB216_219.out (by simp)); have n2_ := Aside0.mk (hb); have n3_ := Aside0.mk (hi); clear BK215; clear BK216; clear HB; clear HI219; have BK215 := n0_; have BK216 := n1_; have HB := n2_; have HI219 := n3_; clear n0_ n1_ n2_ n3_; (try clear hb); (try clear hb2); (try clear hk); (try clear hi)) | ((with_reducible refine gate_dst (N := 7) rfl ?_); refine sqx 7 #[.int .i64 0, .int .i64 0] 24 ?_; intro gb231 hg w15 hbox hb; have n0_ := sqb BK215 hb; have n1_ := sqb BK216 hb; have n2_ := Aside0.mk (IsS161.below (by repeat (first | (with_reducible first | exact HI219.out | apply IsS161.alloc | apply IsS161.drewN | apply IsS161.drew | apply IsS161.set_1 | refine IsS161.far ?_ NB219_215.out _ | refine IsS161.far ?_ NB219_216.out _) | exact HI219.out)) hb); have n3_ := Aside0.mk (below_step (by repeat (first | (with_reducible first | exact HB.out | apply below_alloc | apply pw_below_drewN | apply below_drew1 | refine below_set ?_ (IsS161.ge HI219.out) | refine below_set ?_ GE215.out | refine below_set ?_ GE216.out) | exact HB.out)) hb); have n4_ := Aside0.mk (hbox); have n5_ := Aside0.mk ((by rw [hg]; exact (below_size (by repeat (first | (with_reducible first | exact HB.out | apply below_alloc | apply pw_below_drewN | apply below_drew1 | refine below_set ?_ (IsS161.ge HI219.out) | refine below_set ?_ GE215.out | refine below_set ?_ GE216.out) | exact HB.out))) : w.heap.size ≤ gb231)); have n6_ := Aside0.mk ((by rw [hg]; exact (below_size (by repeat (first | (with_reducible first | exact HB.out | apply below_alloc | apply pw_below_drewN | apply below_drew1 | refine below_set ?_ (IsS161.ge HI219.out) | refine below_set ?_ GE215.out | refine below_set ?_ GE216.out) | exact HB.out))) : w.heap.size ≤ gb231)); have n7_ := sqn BK215 hg; have n8_ := sqm BK215 hg; have n9_ := sqn BK216 hg; have n10_ := sqm BK216 hg; have n11_ := Aside0.mk ((by rw [hg]; exact Nat.ne_of_lt (IsS161.lt (show IsS161 w _ g219 t217 t230 from by repeat (first | (with_reducible first | exact HI219.out | apply IsS161.alloc | apply IsS161.drewN | apply IsS161.drew | apply IsS161.set_1 | refine IsS161.far ?_ NB219_215.out _ | refine IsS161.far ?_ NB219_216.out _) | exact HI219.out))) : g219 ≠ gb231)); have n12_ := Aside0.mk ((by rw [hg]; exact Nat.ne_of_gt (IsS161.lt (show IsS161 w _ g219 t217 t230 from by repeat (first | (with_reducible first | exact HI219.out | apply IsS161.alloc | apply IsS161.drewN | apply IsS161.drew | apply IsS161.set_1 | refine IsS161.far ?_ NB219_215.out _ | refine IsS161.far ?_ NB219_216.out _) | exact HI219.out))) : gb231 ≠ g219)); clear BK215; clear BK216; clear HI219; clear HB; have BK215 := n0_; have BK216 := n1_; have HI219 := n2_; have HB := n3_; have BK231 := n4_; have GW231 := n5_; have GE231 := n6_; have NB215_231 := n7_; have NB231_215 := n8_; have NB216_231 := n9_; have NB231_216 := n10_; have NB219_231 := n11_; have NB231_219 := n12_; clear n0_ n1_ n2_ n3_ n4_ n5_ n6_ n7_ n8_ n9_ n10_ n11_ n12_; clear hb hbox hg) | ((with_reducible refine gate_dst (N := 8) rfl ?_); refine sqx 8 #[.int .i64 0, .int .i64 0] 24 ?_; intro gb232 hg w16 hbox hb; have n0_ := sqb BK215 hb; have n1_ := sqb BK216 hb; have n2_ := Aside0.mk (IsS161.below (by repeat (first | (with_reducible first | exact HI219.out | apply IsS161.alloc | apply IsS161.drewN | apply IsS161.drew | apply IsS161.set_1 | refine IsS161.far ?_ NB219_215.out _ | refine IsS161.far ?_ NB219_216.out _ | refine IsS161.far ?_ NB219_231.out _) | exact HI219.out)) hb); have n3_ := sqb BK231 hb; have n4_ := Aside0.mk (below_step (by repeat (first | (with_reducible first | exact HB.out | apply below_alloc | apply pw_below_drewN | apply below_drew1 | refine below_set ?_ (IsS161.ge HI219.out) | refine below_set ?_ GE215.out | refine below_set ?_ GE216.out | refine below_set ?_ GE231.out) | exact HB.out)) hb); have n5_ := Aside0.mk (hbox); have n6_ := Aside0.mk ((by rw [hg]; exact (below_size (by repeat (first | (with_reducible first | exact HB.out | apply below_alloc | apply pw_below_drewN | apply below_drew1 | refine below_set ?_ (IsS161.ge HI219.out) | refine below_set ?_ GE215.out | refine below_set ?_ GE216.out | refine below_set ?_ GE231.out) | exact HB.out))) : w.heap.size ≤ gb232)); have n7_ := Aside0.mk ((by rw [hg]; exact (below_size (by repeat (first | (with_reducible first | exact HB.out | apply below_alloc | apply pw_below_drewN | apply below_drew1 | refine below_set ?_ (IsS161.ge HI219.out) | refine below_set ?_ GE215.out | refine below_set ?_ GE216.out | refine below_set ?_ GE231.out) | exact HB.out))) : w.heap.size ≤ gb232)); have n8_ := sqn BK215 hg; have n9_ := sqm BK215 hg; have n10_ := sqn BK216 hg; have n11_ := sqm BK216 hg; have n12_ := sqn BK231 hg; have n13_ := sqm BK231 hg; have n14_ := Aside0.mk ((by rw [hg]; exact Nat.ne_of_lt (IsS161.lt (show IsS161 w _ g219 t217 t230 from by repeat (first | (with_reducible first | exact HI219.out | apply IsS161.alloc | apply IsS161.drewN | apply IsS161.drew | apply IsS161.set_1 | refine IsS161.far ?_ NB219_215.out _ | refine IsS161.far ?_ NB219_216.out _ | refine IsS161.far ?_ NB219_231.out _) | exact HI219.out))) : g219 ≠ gb232)); have n15_ := Aside0.mk ((by rw [hg]; exact Nat.ne_of_gt (IsS161.lt (show IsS161 w _ g219 t217 t230 from by repeat (first | (with_reducible first | exact HI219.out | apply IsS161.alloc | apply IsS161.drewN | apply IsS161.drew | apply IsS161.set_1 | refine IsS161.far ?_ NB219_215.out _ | refine IsS161.far ?_ NB219_216.out _ | refine IsS161.far ?_ NB219_231.out _) | exact HI219.out))) : gb232 ≠ g219)); clear BK215; clear BK216; clear HI219; clear BK231; clear HB; have BK215 := n0_; have BK216 := n1_; have HI219 := n2_; have BK231 := n3_; have HB := n4_; have BK232 := n5_; have GW232 := n6_; have GE232 := n7_; have NB215_232 := n8_; have NB232_215 := n9_; have NB216_232 := n10_; have NB232_216 := n11_; have NB231_232 := n12_; have NB232_231 := n13_; have NB219_232 := n14_; have NB232_219 := n15_; clear n0_ n1_ n2_ n3_ n4_ n5_ n6_ n7_ n8_ n9_ n10_ n11_ n12_ n13_ n14_ n15_; clear hb hbox hg; have hnb17 := NB231_215.out; have hnc17 := NB215_231.out; have hnb18 := NB231_216.out; have hnc18 := NB216_231.out; have hnb19 := NB231_232.out; have hnc19 := NB232_231.out; have hnb20 := NB231_219.out; have hnc20 := NB219_231.out; obtain ⟨hcz21_0, hcz21_1, hfz21_0, hfz21_1⟩ := sqc2 BK231; have hnb22 := NB232_215.out; have hnc22 := NB215_232.out; have hnb23 := NB232_216.out; have hnc23 := NB216_232.out; have hnb24 := NB232_219.out; have hnc24 := NB219_232.out; obtain ⟨hcz25_0, hcz25_1, hfz25_0, hfz25_1⟩ := sqc2 BK232))
    have n0_ : Aside0 (((((w16.setCell ⟨gb231, 0, none⟩ (.int .i64 t226)).setCell ⟨gb231, 1, none⟩ (.int .i64 t227)).setCell ⟨gb232, 0, none⟩ (.int .i64 t228)).setCell ⟨gb232, 1, none⟩ (.int .i64 t229)).heap[gb215]? = some (.cells #[.int .i64 0, .int .i64 0] 24 (0, 0))) := ⟨by refine sqt ?_; refine blk_far ?_ NB215_232.out _; refine sqt ?_; refine blk_far ?_ NB215_232.out _; refine sqt ?_; refine blk_far ?_ NB215_231.out _; refine sqt ?_; refine blk_far ?_ NB215_231.out _; refine sqt ?_; exact BK215.out⟩
    have n1_ : Aside0 (((((w16.setCell ⟨gb231, 0, none⟩ (.int .i64 t226)).setCell ⟨gb231, 1, none⟩ (.int .i64 t227)).setCell ⟨gb232, 0, none⟩ (.int .i64 t228)).setCell ⟨gb232, 1, none⟩ (.int .i64 t229)).heap[gb216]? = some (.cells #[.int .i64 0, .int .i64 0] 24 (0, 0))) := ⟨by refine sqt ?_; refine blk_far ?_ NB216_232.out _; refine sqt ?_; refine blk_far ?_ NB216_232.out _; refine sqt ?_; refine blk_far ?_ NB216_231.out _; refine sqt ?_; refine blk_far ?_ NB216_231.out _; refine sqt ?_; exact BK216.out⟩
    have n2_ : Aside0 (((((w16.setCell ⟨gb231, 0, none⟩ (.int .i64 t226)).setCell ⟨gb231, 1, none⟩ (.int .i64 t227)).setCell ⟨gb232, 0, none⟩ (.int .i64 t228)).setCell ⟨gb232, 1, none⟩ (.int .i64 t229)).heap[gb231]? = some (.cells #[.int .i64 t226, .int .i64 t227] 24 (0, 0))) := ⟨by refine sqt ?_; refine blk_far ?_ NB231_232.out _; refine sqt ?_; refine blk_far ?_ NB231_232.out _; refine sqt ?_; refine blk_put (cs := #[.int .i64 t226, .int .i64 0]) ?_ 1 _ rfl; refine sqt ?_; refine blk_put (cs := #[.int .i64 0, .int .i64 0]) ?_ 0 _ rfl; refine sqt ?_; exact BK231.out⟩
    have n3_ : Aside0 (((((w16.setCell ⟨gb231, 0, none⟩ (.int .i64 t226)).setCell ⟨gb231, 1, none⟩ (.int .i64 t227)).setCell ⟨gb232, 0, none⟩ (.int .i64 t228)).setCell ⟨gb232, 1, none⟩ (.int .i64 t229)).heap[gb232]? = some (.cells #[.int .i64 t228, .int .i64 t229] 24 (0, 0))) := ⟨by refine sqt ?_; refine blk_put (cs := #[.int .i64 t228, .int .i64 0]) ?_ 1 _ rfl; refine sqt ?_; refine blk_put (cs := #[.int .i64 0, .int .i64 0]) ?_ 0 _ rfl; refine sqt ?_; refine blk_far ?_ NB232_231.out _; refine sqt ?_; refine blk_far ?_ NB232_231.out _; refine sqt ?_; exact BK232.out⟩
    have n4_ : Aside0 (IsS161 w ((((w16.setCell ⟨gb231, 0, none⟩ (.int .i64 t226)).setCell ⟨gb231, 1, none⟩ (.int .i64 t227)).setCell ⟨gb232, 0, none⟩ (.int .i64 t228)).setCell ⟨gb232, 1, none⟩ (.int .i64 t229)) g219 t217 t230) := ⟨by repeat (first | (with_reducible first | exact HI219.out | apply IsS161.alloc | apply IsS161.drewN | apply IsS161.drew | apply IsS161.set_1 | refine IsS161.far ?_ NB219_215.out _ | refine IsS161.far ?_ NB219_216.out _ | refine IsS161.far ?_ NB219_231.out _ | refine IsS161.far ?_ NB219_232.out _) | exact HI219.out)⟩
    have n5_ : Aside0 (Below w.heap.size w ((((w16.setCell ⟨gb231, 0, none⟩ (.int .i64 t226)).setCell ⟨gb231, 1, none⟩ (.int .i64 t227)).setCell ⟨gb232, 0, none⟩ (.int .i64 t228)).setCell ⟨gb232, 1, none⟩ (.int .i64 t229))) := ⟨by repeat (first | (with_reducible first | exact HB.out | apply below_alloc | apply pw_below_drewN | apply below_drew1 | refine below_set ?_ (IsS161.ge HI219.out) | refine below_set ?_ GE215.out | refine below_set ?_ GE216.out | refine below_set ?_ GE231.out | refine below_set ?_ GE232.out) | exact HB.out)⟩
    (try clear BK215)
    (try clear BK216)
    (try clear BK231)
    (try clear BK232)
    (try clear HI219)
    (try clear HB)
    generalize ((((w16.setCell ⟨gb231, 0, none⟩ (.int .i64 t226)).setCell ⟨gb231, 1, none⟩ (.int .i64 t227)).setCell ⟨gb232, 0, none⟩ (.int .i64 t228)).setCell ⟨gb232, 1, none⟩ (.int .i64 t229)) = w26 at n0_ n1_ n2_ n3_ n4_ n5_ ⊢
    have BK215 := n0_
    have BK216 := n1_
    have BK231 := n2_
    have BK232 := n3_
    have HI219 := n4_
    have HB := n5_
    clear n0_ n1_ n2_ n3_ n4_ n5_
    replace BK215 := Aside0.mk (blk_drew BK215.out)
    replace BK216 := Aside0.mk (blk_drew BK216.out)
    replace BK231 := Aside0.mk (blk_drew BK231.out)
    replace BK232 := Aside0.mk (blk_drew BK232.out)
    replace HI219 := Aside0.mk (IsS161.drew HI219.out)
    replace HB := Aside0.mk (below_drew1 HB.out)
    refine start_ (n := 6) (S := fun w' => w'.cell? ⟨gb231, 0, none⟩ = some (.int .i64 t226) ∧ w'.cell? ⟨gb231, 1, none⟩ = some (.int .i64 t227) ∧ w'.cell? ⟨gb232, 0, none⟩ = some (.int .i64 t228) ∧ w'.cell? ⟨gb232, 1, none⟩ = some (.int .i64 t229)) (ds := []) #[false, false, false, false, false, false] (by kernel_rfl) rfl rfl ⟨(blk_cell BK231.out 0).trans rfl, (blk_cell BK231.out 1).trans rfl, (blk_cell BK232.out 0).trans rfl, (blk_cell BK232.out 1).trans rfl⟩ (fun hHeld => ?_)
    generalize w26.drew = w27 at BK215 BK216 BK231 BK232 HI219 HB hHeld ⊢
    refine pure_ (i := 0) (N := some 25) (v := ?_) (a' := ?_) #[true, false, false, false, false, false] rfl rfl (by kernel_rfl) (fun _ _ _ h => h) (Or.inl ⟨by rfl, ?_⟩) ?_ ?_
    rotate_left
    · intro w'
      go_simp
      with_reducible rfl
    rotate_left
    · simp only [Act.put, List.setIfInBounds_toArray, List.set_cons_zero, List.set_cons_succ, i64_w, i32_w]
      rfl
    refine pure_ (i := 3) (N := some 2) (v := ?_) (a' := ?_) #[true, false, false, true, false, false] rfl rfl (by kernel_rfl) (fun _ _ _ h => h) (Or.inl ⟨by rfl, ?_⟩) ?_ ?_
    rotate_left
    · intro w'
      go_simp
      with_reducible rfl
    rotate_left
    · simp only [Act.put, List.setIfInBounds_toArray, List.set_cons_zero, List.set_cons_succ, i64_w, i32_w]
      rfl
    refine take_ (i := 1) (N := some 26) (v := ?_) (a' := ?_) #[true, true, false, true, false, false] rfl rfl (by kernel_rfl) (fun _ _ _ h => h) (Or.inl ⟨by rfl, ?_⟩) hHeld ?_ ?_
    rotate_left
    · rintro w' ⟨s0, s1, s2, s3⟩
      go_simp
      with_reducible rfl
    rotate_left
    · simp only [Act.put, List.setIfInBounds_toArray, List.set_cons_zero, List.set_cons_succ, i64_w, i32_w]
      rfl
    refine take_ (i := 2) (N := some 27) (v := ?_) (a' := ?_) #[true, true, true, true, false, false] rfl rfl (by kernel_rfl) (fun _ _ _ h => h) (Or.inl ⟨by rfl, ?_⟩) hHeld ?_ ?_
    rotate_left
    · rintro w' ⟨s0, s1, s2, s3⟩
      go_simp
      with_reducible rfl
    rotate_left
    · simp only [Act.put, List.setIfInBounds_toArray, List.set_cons_zero, List.set_cons_succ, i64_w, i32_w]
      rfl
    refine one_ (i := 4) (N := none) #[true, true, true, true, true, false] rfl rfl (by kernel_rfl) (by decide) (fun K hK => ?_)
    have hs28 : w27.cell? ⟨gb215, 0, none⟩ = some (.int .i64 0) := (blk_cell BK215.out 0).trans rfl
    have hfs28 := blk_frozen BK215.out 0
    have hns28_1 := NB216_215.out
    have hns28_2 := NB231_215.out
    have hns28_3 := NB232_215.out
    have hms28_1 := NB215_216.out
    have hms28_2 := NB215_231.out
    have hms28_3 := NB215_232.out
    have hs29 : w27.cell? ⟨gb215, 1, none⟩ = some (.int .i64 0) := (blk_cell BK215.out 1).trans rfl
    have hfs29 := blk_frozen BK215.out 1
    have hns29_1 := NB216_215.out
    have hns29_2 := NB231_215.out
    have hns29_3 := NB232_215.out
    have hms29_1 := NB215_216.out
    have hms29_2 := NB215_231.out
    have hms29_3 := NB215_232.out
    refine skip_ (w1 := ?_) (by rfl) rfl ?_ ?_
    rotate_left
    · go_simp
      rfl
    refine hK.out _ _ ⟨((cell_far (p := ⟨gb215, _, none⟩) NB231_215.out _).trans (((cell_far (p := ⟨gb215, _, none⟩) NB231_215.out _).trans (hHeld.1)))), ((cell_far (p := ⟨gb215, _, none⟩) NB231_215.out _).trans (((cell_far (p := ⟨gb215, _, none⟩) NB231_215.out _).trans (hHeld.2.1)))), ((cell_far (p := ⟨gb215, _, none⟩) NB232_215.out _).trans (((cell_far (p := ⟨gb215, _, none⟩) NB232_215.out _).trans (hHeld.2.2.1)))), ((cell_far (p := ⟨gb215, _, none⟩) NB232_215.out _).trans (((cell_far (p := ⟨gb215, _, none⟩) NB232_215.out _).trans (hHeld.2.2.2))))⟩ (fun hHeld => ?_)
    clear hK K
    refine one_ (i := 5) (N := none) #[true, true, true, true, true, true] rfl rfl (by kernel_rfl) (by decide) (fun K hK => ?_)
    have hs30 : w27.cell? ⟨gb216, 0, none⟩ = some (.int .i64 0) := (blk_cell BK216.out 0).trans rfl
    have hfs30 := blk_frozen BK216.out 0
    have hns30_0 := NB215_216.out
    have hns30_2 := NB231_216.out
    have hns30_3 := NB232_216.out
    have hms30_0 := NB216_215.out
    have hms30_2 := NB216_231.out
    have hms30_3 := NB216_232.out
    have hs31 : w27.cell? ⟨gb216, 1, none⟩ = some (.int .i64 0) := (blk_cell BK216.out 1).trans rfl
    have hfs31 := blk_frozen BK216.out 1
    have hns31_0 := NB215_216.out
    have hns31_2 := NB231_216.out
    have hns31_3 := NB232_216.out
    have hms31_0 := NB216_215.out
    have hms31_2 := NB216_231.out
    have hms31_3 := NB216_232.out
    refine skip_ (w1 := ?_) (by rfl) rfl ?_ ?_
    rotate_left
    · go_simp
      rfl
    refine hK.out _ _ ⟨((cell_far (p := ⟨gb216, _, none⟩) NB231_216.out _).trans (((cell_far (p := ⟨gb216, _, none⟩) NB231_216.out _).trans (hHeld.1)))), ((cell_far (p := ⟨gb216, _, none⟩) NB231_216.out _).trans (((cell_far (p := ⟨gb216, _, none⟩) NB231_216.out _).trans (hHeld.2.1)))), ((cell_far (p := ⟨gb216, _, none⟩) NB232_216.out _).trans (((cell_far (p := ⟨gb216, _, none⟩) NB232_216.out _).trans (hHeld.2.2.1)))), ((cell_far (p := ⟨gb216, _, none⟩) NB232_216.out _).trans (((cell_far (p := ⟨gb216, _, none⟩) NB232_216.out _).trans (hHeld.2.2.2))))⟩ (fun hHeld => ?_)
    clear hK K
    refine done_ (by kernel_rfl) ?_
    try go_wp2
    refine bodyPost_ret (results_list (rs := [.tmp 2, .cell 3 24, .cell 4 24]) rfl (by simp) (.tmp (.cell gb215 24 #[.int .i64 t226, .int .i64 t227] (0, 0) _ rfl (by refine sqt ?_; refine blk_far ?_ NB215_216.out _; refine sqt ?_; refine blk_far ?_ NB215_216.out _; refine sqt ?_; refine blk_put (cs := #[.int .i64 t226, .int .i64 0]) ?_ 1 _ rfl; refine sqt ?_; refine blk_put (cs := #[.int .i64 0, .int .i64 0]) ?_ 0 _ rfl; refine sqt ?_; exact BK215.out) Try.underlying24 rfl (by kernel_rfl) (.cell gb216 24 #[.int .i64 t228, .int .i64 t229] (0, 0) _ rfl (by refine sqt ?_; refine blk_put (cs := #[.int .i64 t228, .int .i64 0]) ?_ 1 _ rfl; refine sqt ?_; refine blk_put (cs := #[.int .i64 0, .int .i64 0]) ?_ 0 _ rfl; refine sqt ?_; refine blk_far ?_ NB216_215.out _; refine sqt ?_; refine blk_far ?_ NB216_215.out _; refine sqt ?_; exact BK216.out) Try.underlying24 rfl (by kernel_rfl) .nil)))) rfl ?_
    exact ⟨by first | rfl | (simp [errW_none, errW_some] <;> rfl) | (simp [*, errW_none, errW_some] <;> rfl), by repeat (first | (with_reducible first | exact HB.out | apply below_alloc | apply pw_below_drewN | apply below_drew1 | refine below_set ?_ (IsS161.ge HI219.out) | refine below_set ?_ GE215.out | refine below_set ?_ GE216.out | refine below_set ?_ GE231.out | refine below_set ?_ GE232.out) | exact HB.out)⟩
  · rw [if_neg c5] at H
    have c5b0 : (t222 == 0) = false := beq_eq_false_iff_ne.mpr c5
    have c5b1 : (t222 != 0) = true := bne_iff_ne.mpr c5
    replace H := Option.bind_eq_some_iff.mp H
    obtain ⟨⟨t233, t234, t235, t236, t237⟩, A320, H⟩ := H
    replace H : (some (wrap64 (1 + t220), t233, t234, t235, t236)) = some (r1, r2, r3, r4, r5) := H
    have A32 := Aside0.mk A320
    clear A320
    simp only [Option.some.injEq, Prod.mk.injEq] at H
    obtain ⟨rfl, rfl, rfl, rfl, rfl⟩ := H
    go_enter Try.func42, Try.ntmps42
    try go_wp2_with (first | ((with_reducible refine gate_dst (N := 3) rfl ?_); refine sqx 3 #[.int .i64 0, .int .i64 0] 24 ?_; intro gb215 hg w33 hbox hb; have BK215 := Aside0.mk (hbox); have GW215 := sqg HB hg; have GE215 := sqg HB hg; replace HB := sqs HB hb; clear hb hbox hg) | ((with_reducible refine gate_dst (N := 4) rfl ?_); refine sqx 4 #[.int .i64 0, .int .i64 0] 24 ?_; intro gb216 hg w34 hbox hb; have BK216 := Aside0.mk (hbox); have GW216 := sqg HB hg; have GE216 := sqg HB hg; have NB215_216 := sqn BK215 hg; have NB216_215 := sqm BK215 hg; replace BK215 := sqb BK215 hb; replace HB := sqs HB hb; clear hb hbox hg) | ((with_reducible refine gate_callee (f := 92) rfl ?_); refine sqL (some 10) Try.func92 #[.slice A0 l0.length c0] ?_; (with_reducible refine (spec_l1Open.calls _ _ l0 t217 t218 w _ ?side1 ?side2 ?side3 A2.out).mono ?_); (case side1 => repeat (first | (with_reducible first | exact HB.out | apply below_alloc | apply pw_below_drewN | apply below_drew1 | refine below_set ?_ GE215.out | refine below_set ?_ GE216.out) | exact HB.out)); (case side2 => exact HR0.out); (case side3 => exact HC0.out); rintro e w35 ⟨g219, rfl, hi, hb, hb2⟩; refine ⟨_, rfl, ?_⟩; have n0_ := Aside0.mk (blk_below (g := gb215) (o := .cells #[.int .i64 0, .int .i64 0] 24 (0, 0)) (by refine sqt ?_; exact BK215.out) hb2); have n1_ := Aside0.mk (blk_below (g := gb216) (o := .cells #[.int .i64 0, .int .i64 0] 24 (0, 0)) (by refine sqt ?_; exact BK216.out) hb2); have n2_ := Aside0.mk (hb); have n3_ := Aside0.mk (hi); have n4_ := Aside0.mk (IsS161.ne_blk hi (blk_below (g := gb215) (o := .cells #[.int .i64 0, .int .i64 0] 24 (0, 0)) (by refine sqt ?_; exact BK215.out) hb2) (by decide)); have n5_ := Aside0.mk (Ne.symm (IsS161.ne_blk hi (blk_below (g := gb215) (o := .cells #[.int .i64 0, .int .i64 0] 24 (0, 0)) (by refine sqt ?_; exact BK215.out) hb2) (by decide))); have n6_ := Aside0.mk (IsS161.ne_blk hi (blk_below (g := gb216) (o := .cells #[.int .i64 0, .int .i64 0] 24 (0, 0)) (by refine sqt ?_; exact BK216.out) hb2) (by decide)); have n7_ := Aside0.mk (Ne.symm (IsS161.ne_blk hi (blk_below (g := gb216) (o := .cells #[.int .i64 0, .int .i64 0] 24 (0, 0)) (by refine sqt ?_; exact BK216.out) hb2) (by decide))); clear BK215; clear BK216; clear HB; have BK215 := n0_; have BK216 := n1_; have HB := n2_; have HI219 := n3_; have NB219_215 := n4_; have NB215_219 := n5_; have NB219_216 := n6_; have NB216_219 := n7_; clear n0_ n1_ n2_ n3_ n4_ n5_ n6_ n7_; (try clear hb); (try clear hb2); (try clear hk); (try clear hi)) | ((with_reducible refine gate_callee (f := 109) rfl ?_); refine sqL (some 12) Try.func109 #[.pointer (some ⟨g219, 0, none⟩), .int .i64 6] ?_; (with_reducible refine (spec_l1Rd_pick.calls k g219 t217 t218 6 t220 t221 w _ ?side1 ?side2 A3.out).mono ?_); (case side1 => repeat (first | (with_reducible first | exact HI219.out | apply IsS161.alloc | apply IsS161.drewN | apply IsS161.drew | apply IsS161.set_1 | refine IsS161.far ?_ NB219_215.out _ | refine IsS161.far ?_ NB219_216.out _) | exact HI219.out)); (case side2 => repeat (first | (with_reducible first | exact HB.out | apply below_alloc | apply pw_below_drewN | apply below_drew1 | refine below_set ?_ (IsS161.ge HI219.out) | refine below_set ?_ GE215.out | refine below_set ?_ GE216.out) | exact HB.out)); rintro e w36 ⟨rfl, hi, hb, hk⟩; refine ⟨_, rfl, ?_⟩; have n0_ := Aside0.mk (KeepBut.blk hk (g' := gb215) (o := .cells #[.int .i64 0, .int .i64 0] 24 (0, 0)) (by refine sqt ?_; exact BK215.out) NB215_219.out (by simp)); have n1_ := Aside0.mk (KeepBut.blk hk (g' := gb216) (o := .cells #[.int .i64 0, .int .i64 0] 24 (0, 0)) (by refine sqt ?_; exact BK216.out) NB216_219.out (by simp)); have n2_ := Aside0.mk (hb); have n3_ := Aside0.mk (hi); clear BK215; clear BK216; clear HB; clear HI219; have BK215 := n0_; have BK216 := n1_; have HB := n2_; have HI219 := n3_; clear n0_ n1_ n2_ n3_; (try clear hb); (try clear hb2); (try clear hk); (try clear hi)) | ((with_reducible refine gate_callee (f := 109) rfl ?_); refine sqL (some 15) Try.func109 #[.pointer (some ⟨g219, 0, none⟩), .int .i64 20] ?_; (with_reducible refine (spec_l1Rd_pick.calls k g219 t217 t221 20 t222 t223 w _ ?side1 ?side2 A4.out).mono ?_); (case side1 => repeat (first | (with_reducible first | exact HI219.out | apply IsS161.alloc | apply IsS161.drewN | apply IsS161.drew | apply IsS161.set_1 | refine IsS161.far ?_ NB219_215.out _ | refine IsS161.far ?_ NB219_216.out _) | exact HI219.out)); (case side2 => repeat (first | (with_reducible first | exact HB.out | apply below_alloc | apply pw_below_drewN | apply below_drew1 | refine below_set ?_ (IsS161.ge HI219.out) | refine below_set ?_ GE215.out | refine below_set ?_ GE216.out) | exact HB.out)); rintro e w37 ⟨rfl, hi, hb, hk⟩; refine ⟨_, rfl, ?_⟩; have n0_ := Aside0.mk (KeepBut.blk hk (g' := gb215) (o := .cells #[.int .i64 0, .int .i64 0] 24 (0, 0)) (by refine sqt ?_; exact BK215.out) NB215_219.out (by simp)); have n1_ := Aside0.mk (KeepBut.blk hk (g' := gb216) (o := .cells #[.int .i64 0, .int .i64 0] 24 (0, 0)) (by refine sqt ?_; exact BK216.out) NB216_219.out (by simp)); have n2_ := Aside0.mk (hb); have n3_ := Aside0.mk (hi); clear BK215; clear BK216; clear HB; clear HI219; have BK215 := n0_; have BK216 := n1_; have HB := n2_; have HI219 := n3_; clear n0_ n1_ n2_ n3_; (try clear hb); (try clear hb2); (try clear hk); (try clear hi)) | ((with_reducible refine gate_callee (f := 125) rfl ?_); refine sqL (some 22) Try.func125 #[.pointer (some ⟨g219, 0, none⟩)] ?_; (with_reducible refine (spec_l8Two.calls k g219 t217 t223 t233 t234 t235 t236 t237 w _ ?side1 ?side2 A32.out).mono ?_); (case side1 => repeat (first | (with_reducible first | exact HI219.out | apply IsS161.alloc | apply IsS161.drewN | apply IsS161.drew | apply IsS161.set_1 | refine IsS161.far ?_ NB219_215.out _ | refine IsS161.far ?_ NB219_216.out _) | exact HI219.out)); (case side2 => repeat (first | (with_reducible first | exact HB.out | apply below_alloc | apply pw_below_drewN | apply below_drew1 | refine below_set ?_ (IsS161.ge HI219.out) | refine below_set ?_ GE215.out | refine below_set ?_ GE216.out) | exact HB.out)); rintro e w38 ⟨rfl, hi, hb, hk⟩; refine ⟨_, rfl, ?_⟩; have n0_ := Aside0.mk (KeepBut.blk hk (g' := gb215) (o := .cells #[.int .i64 0, .int .i64 0] 24 (0, 0)) (by refine sqt ?_; exact BK215.out) NB215_219.out (by simp)); have n1_ := Aside0.mk (KeepBut.blk hk (g' := gb216) (o := .cells #[.int .i64 0, .int .i64 0] 24 (0, 0)) (by refine sqt ?_; exact BK216.out) NB216_219.out (by simp)); have n2_ := Aside0.mk (hb); have n3_ := Aside0.mk (hi); clear BK215; clear BK216; clear HB; clear HI219; have BK215 := n0_; have BK216 := n1_; have HB := n2_; have HI219 := n3_; clear n0_ n1_ n2_ n3_; (try clear hb); (try clear hb2); (try clear hk); (try clear hi)) | ((with_reducible refine gate_dst (N := 7) rfl ?_); refine sqx 7 #[.int .i64 0, .int .i64 0] 24 ?_; intro gb238 hg w39 hbox hb; have n0_ := sqb BK215 hb; have n1_ := sqb BK216 hb; have n2_ := Aside0.mk (IsS161.below (by repeat (first | (with_reducible first | exact HI219.out | apply IsS161.alloc | apply IsS161.drewN | apply IsS161.drew | apply IsS161.set_1 | refine IsS161.far ?_ NB219_215.out _ | refine IsS161.far ?_ NB219_216.out _) | exact HI219.out)) hb); have n3_ := Aside0.mk (below_step (by repeat (first | (with_reducible first | exact HB.out | apply below_alloc | apply pw_below_drewN | apply below_drew1 | refine below_set ?_ (IsS161.ge HI219.out) | refine below_set ?_ GE215.out | refine below_set ?_ GE216.out) | exact HB.out)) hb); have n4_ := Aside0.mk (hbox); have n5_ := Aside0.mk ((by rw [hg]; exact (below_size (by repeat (first | (with_reducible first | exact HB.out | apply below_alloc | apply pw_below_drewN | apply below_drew1 | refine below_set ?_ (IsS161.ge HI219.out) | refine below_set ?_ GE215.out | refine below_set ?_ GE216.out) | exact HB.out))) : w.heap.size ≤ gb238)); have n6_ := Aside0.mk ((by rw [hg]; exact (below_size (by repeat (first | (with_reducible first | exact HB.out | apply below_alloc | apply pw_below_drewN | apply below_drew1 | refine below_set ?_ (IsS161.ge HI219.out) | refine below_set ?_ GE215.out | refine below_set ?_ GE216.out) | exact HB.out))) : w.heap.size ≤ gb238)); have n7_ := sqn BK215 hg; have n8_ := sqm BK215 hg; have n9_ := sqn BK216 hg; have n10_ := sqm BK216 hg; have n11_ := Aside0.mk ((by rw [hg]; exact Nat.ne_of_lt (IsS161.lt (show IsS161 w _ g219 t217 t237 from by repeat (first | (with_reducible first | exact HI219.out | apply IsS161.alloc | apply IsS161.drewN | apply IsS161.drew | apply IsS161.set_1 | refine IsS161.far ?_ NB219_215.out _ | refine IsS161.far ?_ NB219_216.out _) | exact HI219.out))) : g219 ≠ gb238)); have n12_ := Aside0.mk ((by rw [hg]; exact Nat.ne_of_gt (IsS161.lt (show IsS161 w _ g219 t217 t237 from by repeat (first | (with_reducible first | exact HI219.out | apply IsS161.alloc | apply IsS161.drewN | apply IsS161.drew | apply IsS161.set_1 | refine IsS161.far ?_ NB219_215.out _ | refine IsS161.far ?_ NB219_216.out _) | exact HI219.out))) : gb238 ≠ g219)); clear BK215; clear BK216; clear HI219; clear HB; have BK215 := n0_; have BK216 := n1_; have HI219 := n2_; have HB := n3_; have BK238 := n4_; have GW238 := n5_; have GE238 := n6_; have NB215_238 := n7_; have NB238_215 := n8_; have NB216_238 := n9_; have NB238_216 := n10_; have NB219_238 := n11_; have NB238_219 := n12_; clear n0_ n1_ n2_ n3_ n4_ n5_ n6_ n7_ n8_ n9_ n10_ n11_ n12_; clear hb hbox hg) | ((with_reducible refine gate_dst (N := 8) rfl ?_); refine sqx 8 #[.int .i64 0, .int .i64 0] 24 ?_; intro gb239 hg w40 hbox hb; have n0_ := sqb BK215 hb; have n1_ := sqb BK216 hb; have n2_ := Aside0.mk (IsS161.below (by repeat (first | (with_reducible first | exact HI219.out | apply IsS161.alloc | apply IsS161.drewN | apply IsS161.drew | apply IsS161.set_1 | refine IsS161.far ?_ NB219_215.out _ | refine IsS161.far ?_ NB219_216.out _ | refine IsS161.far ?_ NB219_238.out _) | exact HI219.out)) hb); have n3_ := sqb BK238 hb; have n4_ := Aside0.mk (below_step (by repeat (first | (with_reducible first | exact HB.out | apply below_alloc | apply pw_below_drewN | apply below_drew1 | refine below_set ?_ (IsS161.ge HI219.out) | refine below_set ?_ GE215.out | refine below_set ?_ GE216.out | refine below_set ?_ GE238.out) | exact HB.out)) hb); have n5_ := Aside0.mk (hbox); have n6_ := Aside0.mk ((by rw [hg]; exact (below_size (by repeat (first | (with_reducible first | exact HB.out | apply below_alloc | apply pw_below_drewN | apply below_drew1 | refine below_set ?_ (IsS161.ge HI219.out) | refine below_set ?_ GE215.out | refine below_set ?_ GE216.out | refine below_set ?_ GE238.out) | exact HB.out))) : w.heap.size ≤ gb239)); have n7_ := Aside0.mk ((by rw [hg]; exact (below_size (by repeat (first | (with_reducible first | exact HB.out | apply below_alloc | apply pw_below_drewN | apply below_drew1 | refine below_set ?_ (IsS161.ge HI219.out) | refine below_set ?_ GE215.out | refine below_set ?_ GE216.out | refine below_set ?_ GE238.out) | exact HB.out))) : w.heap.size ≤ gb239)); have n8_ := sqn BK215 hg; have n9_ := sqm BK215 hg; have n10_ := sqn BK216 hg; have n11_ := sqm BK216 hg; have n12_ := sqn BK238 hg; have n13_ := sqm BK238 hg; have n14_ := Aside0.mk ((by rw [hg]; exact Nat.ne_of_lt (IsS161.lt (show IsS161 w _ g219 t217 t237 from by repeat (first | (with_reducible first | exact HI219.out | apply IsS161.alloc | apply IsS161.drewN | apply IsS161.drew | apply IsS161.set_1 | refine IsS161.far ?_ NB219_215.out _ | refine IsS161.far ?_ NB219_216.out _ | refine IsS161.far ?_ NB219_238.out _) | exact HI219.out))) : g219 ≠ gb239)); have n15_ := Aside0.mk ((by rw [hg]; exact Nat.ne_of_gt (IsS161.lt (show IsS161 w _ g219 t217 t237 from by repeat (first | (with_reducible first | exact HI219.out | apply IsS161.alloc | apply IsS161.drewN | apply IsS161.drew | apply IsS161.set_1 | refine IsS161.far ?_ NB219_215.out _ | refine IsS161.far ?_ NB219_216.out _ | refine IsS161.far ?_ NB219_238.out _) | exact HI219.out))) : gb239 ≠ g219)); clear BK215; clear BK216; clear HI219; clear BK238; clear HB; have BK215 := n0_; have BK216 := n1_; have HI219 := n2_; have BK238 := n3_; have HB := n4_; have BK239 := n5_; have GW239 := n6_; have GE239 := n7_; have NB215_239 := n8_; have NB239_215 := n9_; have NB216_239 := n10_; have NB239_216 := n11_; have NB238_239 := n12_; have NB239_238 := n13_; have NB219_239 := n14_; have NB239_219 := n15_; clear n0_ n1_ n2_ n3_ n4_ n5_ n6_ n7_ n8_ n9_ n10_ n11_ n12_ n13_ n14_ n15_; clear hb hbox hg; have hnb41 := NB238_215.out; have hnc41 := NB215_238.out; have hnb42 := NB238_216.out; have hnc42 := NB216_238.out; have hnb43 := NB238_239.out; have hnc43 := NB239_238.out; have hnb44 := NB238_219.out; have hnc44 := NB219_238.out; obtain ⟨hcz45_0, hcz45_1, hfz45_0, hfz45_1⟩ := sqc2 BK238; have hnb46 := NB239_215.out; have hnc46 := NB215_239.out; have hnb47 := NB239_216.out; have hnc47 := NB216_239.out; have hnb48 := NB239_219.out; have hnc48 := NB219_239.out; obtain ⟨hcz49_0, hcz49_1, hfz49_0, hfz49_1⟩ := sqc2 BK239))
    have n0_ : Aside0 (((((w40.setCell ⟨gb238, 0, none⟩ (.int .i64 t233)).setCell ⟨gb238, 1, none⟩ (.int .i64 t234)).setCell ⟨gb239, 0, none⟩ (.int .i64 t235)).setCell ⟨gb239, 1, none⟩ (.int .i64 t236)).heap[gb215]? = some (.cells #[.int .i64 0, .int .i64 0] 24 (0, 0))) := ⟨by refine sqt ?_; refine blk_far ?_ NB215_239.out _; refine sqt ?_; refine blk_far ?_ NB215_239.out _; refine sqt ?_; refine blk_far ?_ NB215_238.out _; refine sqt ?_; refine blk_far ?_ NB215_238.out _; refine sqt ?_; exact BK215.out⟩
    have n1_ : Aside0 (((((w40.setCell ⟨gb238, 0, none⟩ (.int .i64 t233)).setCell ⟨gb238, 1, none⟩ (.int .i64 t234)).setCell ⟨gb239, 0, none⟩ (.int .i64 t235)).setCell ⟨gb239, 1, none⟩ (.int .i64 t236)).heap[gb216]? = some (.cells #[.int .i64 0, .int .i64 0] 24 (0, 0))) := ⟨by refine sqt ?_; refine blk_far ?_ NB216_239.out _; refine sqt ?_; refine blk_far ?_ NB216_239.out _; refine sqt ?_; refine blk_far ?_ NB216_238.out _; refine sqt ?_; refine blk_far ?_ NB216_238.out _; refine sqt ?_; exact BK216.out⟩
    have n2_ : Aside0 (((((w40.setCell ⟨gb238, 0, none⟩ (.int .i64 t233)).setCell ⟨gb238, 1, none⟩ (.int .i64 t234)).setCell ⟨gb239, 0, none⟩ (.int .i64 t235)).setCell ⟨gb239, 1, none⟩ (.int .i64 t236)).heap[gb238]? = some (.cells #[.int .i64 t233, .int .i64 t234] 24 (0, 0))) := ⟨by refine sqt ?_; refine blk_far ?_ NB238_239.out _; refine sqt ?_; refine blk_far ?_ NB238_239.out _; refine sqt ?_; refine blk_put (cs := #[.int .i64 t233, .int .i64 0]) ?_ 1 _ rfl; refine sqt ?_; refine blk_put (cs := #[.int .i64 0, .int .i64 0]) ?_ 0 _ rfl; refine sqt ?_; exact BK238.out⟩
    have n3_ : Aside0 (((((w40.setCell ⟨gb238, 0, none⟩ (.int .i64 t233)).setCell ⟨gb238, 1, none⟩ (.int .i64 t234)).setCell ⟨gb239, 0, none⟩ (.int .i64 t235)).setCell ⟨gb239, 1, none⟩ (.int .i64 t236)).heap[gb239]? = some (.cells #[.int .i64 t235, .int .i64 t236] 24 (0, 0))) := ⟨by refine sqt ?_; refine blk_put (cs := #[.int .i64 t235, .int .i64 0]) ?_ 1 _ rfl; refine sqt ?_; refine blk_put (cs := #[.int .i64 0, .int .i64 0]) ?_ 0 _ rfl; refine sqt ?_; refine blk_far ?_ NB239_238.out _; refine sqt ?_; refine blk_far ?_ NB239_238.out _; refine sqt ?_; exact BK239.out⟩
    have n4_ : Aside0 (IsS161 w ((((w40.setCell ⟨gb238, 0, none⟩ (.int .i64 t233)).setCell ⟨gb238, 1, none⟩ (.int .i64 t234)).setCell ⟨gb239, 0, none⟩ (.int .i64 t235)).setCell ⟨gb239, 1, none⟩ (.int .i64 t236)) g219 t217 t237) := ⟨by repeat (first | (with_reducible first | exact HI219.out | apply IsS161.alloc | apply IsS161.drewN | apply IsS161.drew | apply IsS161.set_1 | refine IsS161.far ?_ NB219_215.out _ | refine IsS161.far ?_ NB219_216.out _ | refine IsS161.far ?_ NB219_238.out _ | refine IsS161.far ?_ NB219_239.out _) | exact HI219.out)⟩
    have n5_ : Aside0 (Below w.heap.size w ((((w40.setCell ⟨gb238, 0, none⟩ (.int .i64 t233)).setCell ⟨gb238, 1, none⟩ (.int .i64 t234)).setCell ⟨gb239, 0, none⟩ (.int .i64 t235)).setCell ⟨gb239, 1, none⟩ (.int .i64 t236))) := ⟨by repeat (first | (with_reducible first | exact HB.out | apply below_alloc | apply pw_below_drewN | apply below_drew1 | refine below_set ?_ (IsS161.ge HI219.out) | refine below_set ?_ GE215.out | refine below_set ?_ GE216.out | refine below_set ?_ GE238.out | refine below_set ?_ GE239.out) | exact HB.out)⟩
    (try clear BK215)
    (try clear BK216)
    (try clear BK238)
    (try clear BK239)
    (try clear HI219)
    (try clear HB)
    generalize ((((w40.setCell ⟨gb238, 0, none⟩ (.int .i64 t233)).setCell ⟨gb238, 1, none⟩ (.int .i64 t234)).setCell ⟨gb239, 0, none⟩ (.int .i64 t235)).setCell ⟨gb239, 1, none⟩ (.int .i64 t236)) = w50 at n0_ n1_ n2_ n3_ n4_ n5_ ⊢
    have BK215 := n0_
    have BK216 := n1_
    have BK238 := n2_
    have BK239 := n3_
    have HI219 := n4_
    have HB := n5_
    clear n0_ n1_ n2_ n3_ n4_ n5_
    replace BK215 := Aside0.mk (blk_drew BK215.out)
    replace BK216 := Aside0.mk (blk_drew BK216.out)
    replace BK238 := Aside0.mk (blk_drew BK238.out)
    replace BK239 := Aside0.mk (blk_drew BK239.out)
    replace HI219 := Aside0.mk (IsS161.drew HI219.out)
    replace HB := Aside0.mk (below_drew1 HB.out)
    refine start_ (n := 6) (S := fun w' => w'.cell? ⟨gb238, 0, none⟩ = some (.int .i64 t233) ∧ w'.cell? ⟨gb238, 1, none⟩ = some (.int .i64 t234) ∧ w'.cell? ⟨gb239, 0, none⟩ = some (.int .i64 t235) ∧ w'.cell? ⟨gb239, 1, none⟩ = some (.int .i64 t236)) (ds := []) #[false, false, false, false, false, false] (by kernel_rfl) rfl rfl ⟨(blk_cell BK238.out 0).trans rfl, (blk_cell BK238.out 1).trans rfl, (blk_cell BK239.out 0).trans rfl, (blk_cell BK239.out 1).trans rfl⟩ (fun hHeld => ?_)
    generalize w50.drew = w51 at BK215 BK216 BK238 BK239 HI219 HB hHeld ⊢
    refine pure_ (i := 0) (N := some 25) (v := ?_) (a' := ?_) #[true, false, false, false, false, false] rfl rfl (by kernel_rfl) (fun _ _ _ h => h) (Or.inl ⟨by rfl, ?_⟩) ?_ ?_
    rotate_left
    · intro w'
      go_simp
      with_reducible rfl
    rotate_left
    · simp only [Act.put, List.setIfInBounds_toArray, List.set_cons_zero, List.set_cons_succ, i64_w, i32_w]
      rfl
    refine pure_ (i := 3) (N := some 2) (v := ?_) (a' := ?_) #[true, false, false, true, false, false] rfl rfl (by kernel_rfl) (fun _ _ _ h => h) (Or.inl ⟨by rfl, ?_⟩) ?_ ?_
    rotate_left
    · intro w'
      go_simp
      with_reducible rfl
    rotate_left
    · simp only [Act.put, List.setIfInBounds_toArray, List.set_cons_zero, List.set_cons_succ, i64_w, i32_w]
      rfl
    refine take_ (i := 1) (N := some 26) (v := ?_) (a' := ?_) #[true, true, false, true, false, false] rfl rfl (by kernel_rfl) (fun _ _ _ h => h) (Or.inl ⟨by rfl, ?_⟩) hHeld ?_ ?_
    rotate_left
    · rintro w' ⟨s0, s1, s2, s3⟩
      go_simp
      with_reducible rfl
    rotate_left
    · simp only [Act.put, List.setIfInBounds_toArray, List.set_cons_zero, List.set_cons_succ, i64_w, i32_w]
      rfl
    refine take_ (i := 2) (N := some 27) (v := ?_) (a' := ?_) #[true, true, true, true, false, false] rfl rfl (by kernel_rfl) (fun _ _ _ h => h) (Or.inl ⟨by rfl, ?_⟩) hHeld ?_ ?_
    rotate_left
    · rintro w' ⟨s0, s1, s2, s3⟩
      go_simp
      with_reducible rfl
    rotate_left
    · simp only [Act.put, List.setIfInBounds_toArray, List.set_cons_zero, List.set_cons_succ, i64_w, i32_w]
      rfl
    refine one_ (i := 4) (N := none) #[true, true, true, true, true, false] rfl rfl (by kernel_rfl) (by decide) (fun K hK => ?_)
    have hs52 : w51.cell? ⟨gb215, 0, none⟩ = some (.int .i64 0) := (blk_cell BK215.out 0).trans rfl
    have hfs52 := blk_frozen BK215.out 0
    have hns52_1 := NB216_215.out
    have hns52_2 := NB238_215.out
    have hns52_3 := NB239_215.out
    have hms52_1 := NB215_216.out
    have hms52_2 := NB215_238.out
    have hms52_3 := NB215_239.out
    have hs53 : w51.cell? ⟨gb215, 1, none⟩ = some (.int .i64 0) := (blk_cell BK215.out 1).trans rfl
    have hfs53 := blk_frozen BK215.out 1
    have hns53_1 := NB216_215.out
    have hns53_2 := NB238_215.out
    have hns53_3 := NB239_215.out
    have hms53_1 := NB215_216.out
    have hms53_2 := NB215_238.out
    have hms53_3 := NB215_239.out
    refine skip_ (w1 := ?_) (by rfl) rfl ?_ ?_
    rotate_left
    · go_simp
      rfl
    refine hK.out _ _ ⟨((cell_far (p := ⟨gb215, _, none⟩) NB238_215.out _).trans (((cell_far (p := ⟨gb215, _, none⟩) NB238_215.out _).trans (hHeld.1)))), ((cell_far (p := ⟨gb215, _, none⟩) NB238_215.out _).trans (((cell_far (p := ⟨gb215, _, none⟩) NB238_215.out _).trans (hHeld.2.1)))), ((cell_far (p := ⟨gb215, _, none⟩) NB239_215.out _).trans (((cell_far (p := ⟨gb215, _, none⟩) NB239_215.out _).trans (hHeld.2.2.1)))), ((cell_far (p := ⟨gb215, _, none⟩) NB239_215.out _).trans (((cell_far (p := ⟨gb215, _, none⟩) NB239_215.out _).trans (hHeld.2.2.2))))⟩ (fun hHeld => ?_)
    clear hK K
    refine one_ (i := 5) (N := none) #[true, true, true, true, true, true] rfl rfl (by kernel_rfl) (by decide) (fun K hK => ?_)
    have hs54 : w51.cell? ⟨gb216, 0, none⟩ = some (.int .i64 0) := (blk_cell BK216.out 0).trans rfl
    have hfs54 := blk_frozen BK216.out 0
    have hns54_0 := NB215_216.out
    have hns54_2 := NB238_216.out
    have hns54_3 := NB239_216.out
    have hms54_0 := NB216_215.out
    have hms54_2 := NB216_238.out
    have hms54_3 := NB216_239.out
    have hs55 : w51.cell? ⟨gb216, 1, none⟩ = some (.int .i64 0) := (blk_cell BK216.out 1).trans rfl
    have hfs55 := blk_frozen BK216.out 1
    have hns55_0 := NB215_216.out
    have hns55_2 := NB238_216.out
    have hns55_3 := NB239_216.out
    have hms55_0 := NB216_215.out
    have hms55_2 := NB216_238.out
    have hms55_3 := NB216_239.out
    refine skip_ (w1 := ?_) (by rfl) rfl ?_ ?_
    rotate_left
    · go_simp
      rfl
    refine hK.out _ _ ⟨((cell_far (p := ⟨gb216, _, none⟩) NB238_216.out _).trans (((cell_far (p := ⟨gb216, _, none⟩) NB238_216.out _).trans (hHeld.1)))), ((cell_far (p := ⟨gb216, _, none⟩) NB238_216.out _).trans (((cell_far (p := ⟨gb216, _, none⟩) NB238_216.out _).trans (hHeld.2.1)))), ((cell_far (p := ⟨gb216, _, none⟩) NB239_216.out _).trans (((cell_far (p := ⟨gb216, _, none⟩) NB239_216.out _).trans (hHeld.2.2.1)))), ((cell_far (p := ⟨gb216, _, none⟩) NB239_216.out _).trans (((cell_far (p := ⟨gb216, _, none⟩) NB239_216.out _).trans (hHeld.2.2.2))))⟩ (fun hHeld => ?_)
    clear hK K
    refine done_ (by kernel_rfl) ?_
    try go_wp2
    refine bodyPost_ret (results_list (rs := [.tmp 2, .cell 3 24, .cell 4 24]) rfl (by simp) (.tmp (.cell gb215 24 #[.int .i64 t233, .int .i64 t234] (0, 0) _ rfl (by refine sqt ?_; refine blk_far ?_ NB215_216.out _; refine sqt ?_; refine blk_far ?_ NB215_216.out _; refine sqt ?_; refine blk_put (cs := #[.int .i64 t233, .int .i64 0]) ?_ 1 _ rfl; refine sqt ?_; refine blk_put (cs := #[.int .i64 0, .int .i64 0]) ?_ 0 _ rfl; refine sqt ?_; exact BK215.out) Try.underlying24 rfl (by kernel_rfl) (.cell gb216 24 #[.int .i64 t235, .int .i64 t236] (0, 0) _ rfl (by refine sqt ?_; refine blk_put (cs := #[.int .i64 t235, .int .i64 0]) ?_ 1 _ rfl; refine sqt ?_; refine blk_put (cs := #[.int .i64 0, .int .i64 0]) ?_ 0 _ rfl; refine sqt ?_; refine blk_far ?_ NB216_215.out _; refine sqt ?_; refine blk_far ?_ NB216_215.out _; refine sqt ?_; exact BK216.out) Try.underlying24 rfl (by kernel_rfl) .nil)))) rfl ?_
    exact ⟨by first | rfl | (simp [errW_none, errW_some] <;> rfl) | (simp [*, errW_none, errW_some] <;> rfl), by repeat (first | (with_reducible first | exact HB.out | apply below_alloc | apply pw_below_drewN | apply below_drew1 | refine below_set ?_ (IsS161.ge HI219.out) | refine below_set ?_ GE215.out | refine below_set ?_ GE216.out | refine below_set ?_ GE238.out | refine below_set ?_ GE239.out) | exact HB.out)⟩

/-! ### impl_NumOk: function 117 -/
set_option maxHeartbeats 8000000 in
set_option maxRecDepth 100000 in
theorem impl_NumOk.calls (a0 : Int) (r : Bool) (w : World) (h : impl_NumOk.f a0 = some r) :
    Calls Try.prog 117 #[.int .i64 a0] w fun e w' => e = .returned (.bool r) ∧ Drawn0 w w' := by
  have H : (if a0 ≥ (-2147483648) then (some (decide (a0 ≤ 2147483647))) else (some false)) = some r := h
  clear h
  by_cases c2 : a0 ≥ (-2147483648)
  · rw [if_pos c2] at H
    have c2b0 : decide ((-2147483648) ≤ a0) = true := decide_eq_true c2
    clear c2
    obtain rfl := Option.some.inj H
    go_enter Try.func117, Try.ntmps117
    go_wp2
    go_ret
    exact ⟨by first | rfl | (simp; done) | (simp [*]; done), by repeat (first | exact Drawn0.refl _ | apply Drawn0.step)⟩
  · rw [if_neg c2] at H
    have c2b0 : decide ((-2147483648) ≤ a0) = false := decide_eq_false c2
    clear c2
    obtain rfl := Option.some.inj H
    go_enter Try.func117, Try.ntmps117
    go_wp2
    go_ret
    exact ⟨by first | rfl | (simp; done) | (simp [*]; done), by repeat (first | exact Drawn0.refl _ | apply Drawn0.step)⟩

/-! ### impl_rangeNone: function 126 -/
set_option maxHeartbeats 8000000 in
set_option maxRecDepth 100000 in
theorem impl_rangeNone.calls  (r1 : Int) (r2 : Int) (w : World) (h : impl_rangeNone.f  = some (r1, r2)) :
    Calls Try.prog 126 #[] w fun e w' => e = .returned (.agg #[.int .i64 r1, .int .i64 r2]) ∧ Below w.heap.size w w' := by
  have hu24 := Try.underlying24
  have HB := Aside0.mk (Below.refl w.heap.size w)
  have H : (some (1, 0)) = some (r1, r2) := h
  clear h
  simp only [Option.some.injEq, Prod.mk.injEq] at H
  obtain ⟨rfl, rfl⟩ := H
  go_enter Try.func126, Try.ntmps126
  go_wp2_with (first | ((with_reducible refine gate_dst (N := 0) rfl ?_); refine sqx 0 #[.int .i64 0, .int .i64 0] 24 ?_; intro gb240 hg w1 hbox hb; have BK240 := Aside0.mk (hbox); have GW240 := sqg HB hg; have GE240 := sqg HB hg; replace HB := sqs HB hb; clear hb hbox hg; obtain ⟨hcz2_0, hcz2_1, hfz2_0, hfz2_1⟩ := sqc2 BK240))
  refine bodyPost_ret (results_cell_row rfl _ _ gb240 24 #[.int .i64 1, .int .i64 0] (0, 0) _ rfl (by refine sqt ?_; refine blk_put (cs := #[.int .i64 1, .int .i64 0]) ?_ 1 _ rfl; refine sqt ?_; refine blk_put (cs := #[.int .i64 0, .int .i64 0]) ?_ 0 _ rfl; refine sqt ?_; exact BK240.out) Try.underlying24 rfl (by kernel_rfl)) rfl ?_
  exact sqe HB

end Go.Proofs.Ytkekcenlleebeaa.PFnRangeCmp
