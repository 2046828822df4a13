/- Functions of the program as plain Lean functions, and that calls of them come to what these tell. Conditions: those in each law. -/
import Derived.Test.YtmdcgkkkfncieaaSq
import Derived.Test.YtmdcgkkkfncieaaDFnRangeStill
import Derived.Test.YtmdcgkkkfncieaaQFnRangeStillx0
import Derived.Test.YtmdcgkkkfncieaaQFnRangeStillx1
import Derived.Test.YtmdcgkkkfncieaaQFnRangeStillx2
import Derived.Test.YtmdcgkkkfncieaaQFnRangeStillx3
import Derived.Test.YtmdcgkkkfncieaaQFnRangeStillx4
import Derived.Test.YtmdcgkkkfncieaaQFnRangeStillx7
import Derived.Test.YtmdcgkkkfncieaaQFnRangeStillx10
import Derived.Test.YtmdcgkkkfncieaaQFnRangeStillx11
import Derived.Test.YtmdcgkkkfncieaaQFnRangeStillx13
import Derived.Test.YtmdcgkkkfncieaaQFnRangeStillx14
namespace Go.Proofs.Ytmdcgkkkfncieaa.PFnRangeStill
open Go.RowKit Go.Proofs.Ytmdcgkkkfncieaa.Sq Go.Proofs.YtmdcgkkkfncieaaW.PrintWords Go.Proofs.YtmdcgkkkfncieaaW.PrintLast Go.Proofs.YtmdcgkkkfncieaaW.PrintMore
attribute [local go_sem] max2_int min2_int max_two min_two max_three min_three max_four min_four   -- for this text's walks alone
set_option linter.unusedVariables false
set_option linter.unusedSimpArgs false

attribute [local go_sem high] eqA27
/-! ### laws_FnRangeStill: function 11 -/
theorem laws_FnRangeStill.mono_l : ∀ k, (∀ y0 y1 y2 y3 y4 y5, LeO (laws_FnRangeStill.l0 k y0 y1 y2 y3 y4 y5) (laws_FnRangeStill.l0 (k + 1) y0 y1 y2 y3 y4 y5)) ∧ (∀ y0 y1 y2 y3 y4 y5 y6, LeO (laws_FnRangeStill.j1 k y0 y1 y2 y3 y4 y5 y6) (laws_FnRangeStill.j1 (k + 1) y0 y1 y2 y3 y4 y5 y6)) ∧ (∀ y0 y1 y2 y3 y4 y5 y6 y7 y8, LeO (laws_FnRangeStill.j2 k y0 y1 y2 y3 y4 y5 y6 y7 y8) (laws_FnRangeStill.j2 (k + 1) y0 y1 y2 y3 y4 y5 y6 y7 y8))
  | 0 => ⟨fun _ _ _ _ _ _ r h => by simp [laws_FnRangeStill.l0] at h, fun _ _ _ _ _ _ _ r h => by simp [laws_FnRangeStill.j1] at h, fun _ _ _ _ _ _ _ _ _ r h => by simp [laws_FnRangeStill.j2] at h⟩
  | k + 1 => by
    obtain ⟨ih0, ih1, ih2⟩ := laws_FnRangeStill.mono_l k
    refine ⟨?_, ?_, ?_⟩
    · intro y0 y1 y2 y3 y4 y5
      unfold laws_FnRangeStill.l0
      repeat' first
      | (with_reducible exact ih0 _ _ _ _ _ _)
      | (with_reducible exact ih1 _ _ _ _ _ _ _)
      | (with_reducible exact ih2 _ _ _ _ _ _ _ _ _)
      | (with_reducible exact impl_RangeWiden.mono _ _ _ _ _ _)
      | (with_reducible exact spec_DrawRangeWiden.mono _ _)
      | (with_reducible exact spec_RangeWiden.mono _ _ _ _ _ _)
      | (with_reducible exact LeO.refl _)
      | (with_reducible exact LeO.none _)
      | (with_reducible refine LeO.ite ?_ ?_)
      | (with_reducible refine LeO.bind ?_ (fun _ => ?_))
      | exact ih0 _ _ _ _ _ _
      | exact ih1 _ _ _ _ _ _ _
      | exact ih2 _ _ _ _ _ _ _ _ _
      | exact impl_RangeWiden.mono _ _ _ _ _ _
      | exact spec_DrawRangeWiden.mono _ _
      | exact spec_RangeWiden.mono _ _ _ _ _ _
      | exact LeO.none _
      | refine LeO.ite ?_ ?_
      | refine LeO.bind ?_ (fun _ => ?_)
    · intro y0 y1 y2 y3 y4 y5 y6
      unfold laws_FnRangeStill.j1
      repeat' first
      | (with_reducible exact ih0 _ _ _ _ _ _)
      | (with_reducible exact ih1 _ _ _ _ _ _ _)
      | (with_reducible exact ih2 _ _ _ _ _ _ _ _ _)
      | (with_reducible exact impl_RangeWiden.mono _ _ _ _ _ _)
      | (with_reducible exact spec_DrawRangeWiden.mono _ _)
      | (with_reducible exact spec_RangeWiden.mono _ _ _ _ _ _)
      | (with_reducible exact LeO.refl _)
      | (with_reducible exact LeO.none _)
      | (with_reducible refine LeO.ite ?_ ?_)
      | (with_reducible refine LeO.bind ?_ (fun _ => ?_))
      | exact ih0 _ _ _ _ _ _
      | exact ih1 _ _ _ _ _ _ _
      | exact ih2 _ _ _ _ _ _ _ _ _
      | exact impl_RangeWiden.mono _ _ _ _ _ _
      | exact spec_DrawRangeWiden.mono _ _
      | exact spec_RangeWiden.mono _ _ _ _ _ _
      | exact LeO.none _
      | refine LeO.ite ?_ ?_
      | refine LeO.bind ?_ (fun _ => ?_)
    · intro y0 y1 y2 y3 y4 y5 y6 y7 y8
      unfold laws_FnRangeStill.j2
      repeat' first
      | (with_reducible exact ih0 _ _ _ _ _ _)
      | (with_reducible exact ih1 _ _ _ _ _ _ _)
      | (with_reducible exact ih2 _ _ _ _ _ _ _ _ _)
      | (with_reducible exact impl_RangeWiden.mono _ _ _ _ _ _)
      | (with_reducible exact spec_DrawRangeWiden.mono _ _)
      | (with_reducible exact spec_RangeWiden.mono _ _ _ _ _ _)
      | (with_reducible exact LeO.refl _)
      | (with_reducible exact LeO.none _)
      | (with_reducible refine LeO.ite ?_ ?_)
      | (with_reducible refine LeO.bind ?_ (fun _ => ?_))
      | exact ih0 _ _ _ _ _ _
      | exact ih1 _ _ _ _ _ _ _
      | exact ih2 _ _ _ _ _ _ _ _ _
      | exact impl_RangeWiden.mono _ _ _ _ _ _
      | exact spec_DrawRangeWiden.mono _ _
      | exact spec_RangeWiden.mono _ _ _ _ _ _
      | exact LeO.none _
      | refine LeO.ite ?_ ?_
      | refine LeO.bind ?_ (fun _ => ?_)
theorem laws_FnRangeStill.mono : ∀ a0 k, LeO (laws_FnRangeStill.f k a0) (laws_FnRangeStill.f (k + 1) a0) := by
  intro a0 k
  obtain ⟨ih0, ih1, ih2⟩ := laws_FnRangeStill.mono_l k
  unfold laws_FnRangeStill.f
  repeat' first
      | (with_reducible exact ih0 _ _ _ _ _ _)
      | (with_reducible exact ih1 _ _ _ _ _ _ _)
      | (with_reducible exact ih2 _ _ _ _ _ _ _ _ _)
      | (with_reducible exact impl_RangeWiden.mono _ _ _ _ _ _)
      | (with_reducible exact spec_DrawRangeWiden.mono _ _)
      | (with_reducible exact spec_RangeWiden.mono _ _ _ _ _ _)
      | (with_reducible exact LeO.refl _)
      | (with_reducible exact LeO.none _)
      | (with_reducible refine LeO.ite ?_ ?_)
      | (with_reducible refine LeO.bind ?_ (fun _ => ?_))
      | exact ih0 _ _ _ _ _ _
      | exact ih1 _ _ _ _ _ _ _
      | exact ih2 _ _ _ _ _ _ _ _ _
      | exact impl_RangeWiden.mono _ _ _ _ _ _
      | exact spec_DrawRangeWiden.mono _ _
      | exact spec_RangeWiden.mono _ _ _ _ _ _
      | exact LeO.none _
      | refine LeO.ite ?_ ?_
      | refine LeO.bind ?_ (fun _ => ?_)
def laws_FnRangeStill.T14 : Bool × List (List Nat × List Nat) := (true, [([], []), ([], []), ([], []), ([], []), ([2, 3], [2, 3]), ([], []), ([1, 4, 5], [1, 4, 5]), ([0, 6], [0, 6]), ([7, 6], [7]), ([8], [8]), ([8], [8]), ([9, 10, 8, 8], [8, 9, 10]), ([11, 8], [8, 11]), ([8, 12], [8, 12])])
def laws_FnRangeStill.B14 : List Nat := [0, 0, 0, 0, 12, 0, 62, 127, 255, 511, 511, 2047, 4095, 8191]
theorem laws_FnRangeStill.tab14 : rtab .any (opsOf Try.f11 14) = laws_FnRangeStill.T14 := by kernel_rfl
theorem laws_FnRangeStill.bits14 : waitsOk laws_FnRangeStill.T14.2 laws_FnRangeStill.B14 = true := by kernel_rfl
set_option maxHeartbeats 8000000 in
set_option maxRecDepth 100000 in
theorem laws_FnRangeStill.calls (k : Nat) (A0 : Option Addr) (c0 : Nat) (l0 : List Int) (r : Bool) (w : World) (hr0 : Kd.C (Kd.int .u8) w A0 l0.length l0) (hc0 : l0.length ≤ c0) (h : laws_FnRangeStill.f k l0 = some r) :
    Calls Try.prog 11 #[.slice A0 l0.length c0] w fun e w' => e = .returned (.bool r) ∧ Below w.heap.size w w' := by
  have hu27 := Try.underlying27
  have HR0 := Aside0.mk hr0
  have HC0 := Aside0.mk hc0
  clear hr0 hc0
  have HB := Aside0.mk (Below.refl w.heap.size w)
  have H : (if (l0.length : Int) > 1048576 then (some true) else ((spec_DrawRangeWiden.f k l0).bind fun bt303 => ((spec_RangeOk.f bt303.1 bt303.2.1).bind fun t312 => (if t312 = true then (laws_FnRangeStill.l0 k l0 bt303.2.2.2.2 0 0 bt303.1 bt303.2.1) else ((impl_RangeWiden.f k bt303.1 bt303.2.1 bt303.1 bt303.2.1 bt303.2.2.2.2).bind fun bt313 => (some (bt313.1 == 1 && (bt313.2 == 0)))))))) = some r := h
  clear h
  by_cases c2 : (l0.length : Int) > 1048576
  · rw [if_pos c2] at H
    have c2b0 : decide (1048576 < (l0.length : Int)) = true := decide_eq_true c2
    have c2b1 : decide (1048576 < l0.length) = true := decide_eq_true (by omega)
    clear c2
    obtain rfl := Option.some.inj H
    go_enter Try.func11, Try.ntmps11
    go_wp2
    go_ret
    exact sqe HB
  · rw [if_neg c2] at H
    have c2b0 : decide (1048576 < (l0.length : Int)) = false := decide_eq_false c2
    have c2b1 : decide (1048576 < l0.length) = false := decide_eq_false (by omega)
    clear c2
    replace H := Option.bind_eq_some_iff.mp H
    obtain ⟨⟨t303, t304, t305, t306, t307⟩, A30, H⟩ := H
    replace H : ((spec_RangeOk.f t303 t304).bind fun t312 => (if t312 = true then (laws_FnRangeStill.l0 k l0 t307 0 0 t303 t304) else ((impl_RangeWiden.f k t303 t304 t303 t304 t307).bind fun bt313 => (some (bt313.1 == 1 && (bt313.2 == 0)))))) = some r := H
    have A3 := Aside0.mk A30
    clear A30
    replace H := Option.bind_eq_some_iff.mp H
    obtain ⟨t312, A40, H⟩ := H
    replace H : (if t312 = true then (laws_FnRangeStill.l0 k l0 t307 0 0 t303 t304) else ((impl_RangeWiden.f k t303 t304 t303 t304 t307).bind fun bt313 => (some (bt313.1 == 1 && (bt313.2 == 0))))) = some r := H
    have A4 := Aside0.mk A40
    clear A40
    by_cases c5 : t312 = true
    · subst c5
      have H1 : (laws_FnRangeStill.l0 k l0 t307 0 0 t303 t304) = some r := by rw [if_pos rfl] at H; exact H
      clear H
      have H := H1
      clear H1
      have H' := Aside0.mk H
      clear H
      go_enter Try.func11, Try.ntmps11
      go_wp2_with (first | ((with_reducible refine gate_callee (f := 39) rfl ?_); refine sqL (some 15) Try.func39 #[.slice A0 l0.length c0] ?_; (with_reducible refine (spec_DrawRangeWiden.calls k _ _ l0 t303 t304 t305 t306 t307 _ ?side1 ?side2 A3.out).mono ?_); (case side1 => repeat (first | exact HR0.out | (with_reducible refine Kd.C_alloc ?_ _) | (with_reducible refine Kd.C_drewN ?_ _) | (with_reducible refine Kd.C_drew ?_))); (case side2 => exact HC0.out); rintro e w6 ⟨v308, rfl, ho0, hb⟩; refine ⟨_, rfl, ?_⟩; have HO309 := Aside0.mk (Kd.R_lower ho0 (below_size (by repeat (first | (with_reducible first | exact HB.out | apply below_alloc | apply pw_below_drewN | apply below_drew1) | exact HB.out)))); replace HB := sqs HB hb; (try clear hb); (try clear hb2); (try clear hk); (try clear hi); (try clear ho0)) | ((with_reducible refine gate_dst (N := 3) rfl ?_); refine sqx 3 #[.int .i64 0, .int .i64 0] 27 ?_; intro gb310 hg w7 hbox hb; have n0_ := Aside0.mk (Kd.R_below (by (with_reducible repeat (first | apply Kd.R_alloc | apply Kd.R_drewN | apply Kd.R_drew)); exact HO309.out) hb); have n1_ := sqs HB hb; have n2_ := Aside0.mk (hbox); have n3_ := sqg HB hg; have n4_ := sqg HB hg; clear HO309; clear HB; have HO309 := n0_; have HB := n1_; have BK310 := n2_; have GW310 := n3_; have GE310 := n4_; clear n0_ n1_ n2_ n3_ n4_; clear hb hbox hg) | ((with_reducible refine gate_dst (N := 4) rfl ?_); refine sqx 4 #[.int .i64 0, .int .i64 0] 27 ?_; intro gb311 hg w8 hbox hb; have n0_ := Aside0.mk (Kd.R_below (by (with_reducible repeat (first | apply Kd.R_alloc | apply Kd.R_drewN | apply Kd.R_drew)); exact HO309.out) hb); have n1_ := sqb BK310 hb; have n2_ := sqs HB hb; have n3_ := Aside0.mk (hbox); have n4_ := sqg HB hg; have n5_ := sqg HB hg; have n6_ := sqn BK310 hg; have n7_ := sqm BK310 hg; clear HO309; clear BK310; clear HB; have HO309 := n0_; have BK310 := n1_; have HB := n2_; have BK311 := n3_; have GW311 := n4_; have GE311 := n5_; have NB310_311 := n6_; have NB311_310 := n7_; clear n0_ n1_ n2_ n3_ n4_ n5_ n6_ n7_; clear hb hbox hg; have hnb9 := NB310_311.out; have hnc9 := NB311_310.out; obtain ⟨hcz10_0, hcz10_1, hfz10_0, hfz10_1⟩ := sqc2 BK310; obtain ⟨hcz11_0, hcz11_1, hfz11_0, hfz11_1⟩ := sqc2 BK311) | ((with_reducible refine gate_callee (f := 40) rfl ?_); refine sqL (some 20) Try.func40 #[.agg #[.int .i64 t303, .int .i64 t304]] ?_; (with_reducible refine (spec_RangeOk.calls t303 t304 true _ A4.out).mono ?_); rintro e w12 ⟨rfl, hb⟩; refine ⟨_, rfl, ?_⟩; have n0_ := Aside0.mk (Kd.R_below (by (with_reducible repeat (first | apply Kd.R_alloc | apply Kd.R_drewN | apply Kd.R_drew)); exact (Kd.R_mono (Kd.R_mono (Kd.R_far (p := ⟨gb311, 1, none⟩) (Kd.R_far (p := ⟨gb311, 0, none⟩) (Kd.R_far (p := ⟨gb310, 1, none⟩) (Kd.R_far (p := ⟨gb310, 0, none⟩) (Kd.R_types (Kd.R_types HO309.out BK310.out (by decide)) BK311.out (by decide)) (fun _ hk => hk.1.2) (.int .i64 t303)) (fun _ hk => hk.1.2) (.int .i64 t304)) (fun _ hk => hk.2) (.int .i64 t305)) (fun _ hk => hk.2) (.int .i64 t306)) (fun _ h_ => h_.1)) (fun _ h_ => h_.1))) hb); have n1_ := Aside0.mk (blk_below (g := gb310) (o := .cells #[.int .i64 t303, .int .i64 t304] 27 (0, 0)) (by refine sqt ?_; refine blk_far ?_ NB310_311.out _; refine sqt ?_; refine blk_far ?_ NB310_311.out _; refine sqt ?_; refine blk_put (cs := #[.int .i64 t303, .int .i64 0]) ?_ 1 _ rfl; refine sqt ?_; refine blk_put (cs := #[.int .i64 0, .int .i64 0]) ?_ 0 _ rfl; refine sqt ?_; exact BK310.out) hb); have n2_ := Aside0.mk (blk_below (g := gb311) (o := .cells #[.int .i64 t305, .int .i64 t306] 27 (0, 0)) (by refine sqt ?_; refine blk_put (cs := #[.int .i64 t305, .int .i64 0]) ?_ 1 _ rfl; refine sqt ?_; refine blk_put (cs := #[.int .i64 0, .int .i64 0]) ?_ 0 _ rfl; refine sqt ?_; refine blk_far ?_ NB311_310.out _; refine sqt ?_; refine blk_far ?_ NB311_310.out _; refine sqt ?_; exact BK311.out) hb); have n3_ := sqs HB hb; clear HO309; clear BK310; clear BK311; clear HB; have HO309 := n0_; have BK310 := n1_; have BK311 := n2_; have HB := n3_; clear n0_ n1_ n2_ n3_; (try clear hb); (try clear hb2); (try clear hk); (try clear hi)))
      go_loopg [6, 7] k (fun kq v6 v7 w' => ∃ (x6_1 : Int) (x7_1 : Int) (x311000_1 : Int) (x311001_1 : Int), v6 = .int .i64 x6_1 ∧ v7 = .int .i64 x7_1 ∧ Aside0 (laws_FnRangeStill.l0 kq l0 t307 x6_1 x7_1 x311000_1 x311001_1 = some r) ∧ Aside0 (kq ≤ k) ∧ Aside0 (Kd.R (Kd.int .i64) 3 w' w.heap.size (fun _ => True) v308 t307) ∧ Aside0 (w'.heap[gb310]? = some (.cells #[.int .i64 x311000_1, .int .i64 x311001_1] 27 (0, 0))) ∧ Aside0 (w'.heap[gb311]? = some (.cells #[.int .i64 t305, .int .i64 t306] 27 (0, 0))) ∧ Aside0 (Below w.heap.size w w'))
      case atStart => exact ⟨(0), (0), (t303), (t304), (by first | rfl | (simp; done) | (simp [*]; done)), (by first | rfl | (simp; done) | (simp [*]; done)), H', ⟨Nat.le_refl _⟩, ⟨by (with_reducible repeat (first | apply Kd.R_alloc | apply Kd.R_drewN | apply Kd.R_drew)); exact HO309.out⟩, sqk BK310, sqk BK311, sqh HB⟩
      case round =>
        clear H'
        try clear c1
        try clear c2
        try clear c2b0
        try clear c2b1
        try clear p2
        try clear c3
        try clear c4
        try clear c5
        try clear c9
        try clear c11
        try clear hcz10_0
        try clear hcz10_1
        try clear hcz11_0
        try clear hcz11_1
        try clear hfz10_0
        try clear hfz10_1
        try clear hfz11_0
        try clear hfz11_1
        obtain ⟨x6_1, x7_1, x311000_1, x311001_1, rfl, rfl, HA, HK1, HO_5, BK310, BK311, HB⟩ := hrel
        cases gk with
        | zero => exact absurd HA.out (by simp [laws_FnRangeStill.l0])
        | succ k1 =>
          have H := HA.out
          clear HA
          simp only [laws_FnRangeStill.l0] at H
          by_cases c13 : x7_1 < 40
          · rw [if_pos c13] at H
            have c13b0 : decide (x7_1 < 40) = true := decide_eq_true c13
            clear c13
            replace H := Option.bind_eq_some_iff.mp H
            obtain ⟨t315, A140, H⟩ := H
            replace H : ((spec_NumWrap.f t315).bind fun t316 => (if (Int.tmod x7_1 3) = 0 then ((laws_at.f l0 x7_1).bind fun t317 => (laws_FnRangeStill.j1 k1 l0 t307 x6_1 x7_1 (wrap64 ((wrap64 (t317)) - 128)) x311000_1 x311001_1)) else (laws_FnRangeStill.j1 k1 l0 t307 x6_1 x7_1 t316 x311000_1 x311001_1))) = some r := H
            have A14 := Aside0.mk A140
            clear A140
            replace H := Option.bind_eq_some_iff.mp H
            obtain ⟨t316, A150, H⟩ := H
            replace H : (if (Int.tmod x7_1 3) = 0 then ((laws_at.f l0 x7_1).bind fun t317 => (laws_FnRangeStill.j1 k1 l0 t307 x6_1 x7_1 (wrap64 ((wrap64 (t317)) - 128)) x311000_1 x311001_1)) else (laws_FnRangeStill.j1 k1 l0 t307 x6_1 x7_1 t316 x311000_1 x311001_1)) = some r := H
            have A15 := Aside0.mk A150
            clear A150
            have HC16 := Aside0.mk H
            clear H
            go_upto_if 39 with (first | ((with_reducible refine gate_callee (f := 43) rfl ?_); refine sqL (some 35) Try.func43 #[.slice A0 l0.length c0, .int .i64 (wrap64 (x7_1 * 3))] ?_; (with_reducible refine (laws_wide.calls _ _ l0 (wrap64 (x7_1 * 3)) t315 _ ?side1 ?side2 A14.out).mono ?_); (case side1 => repeat (first | exact (Kd.C_below HR0.out HB.out) | (with_reducible refine Kd.C_alloc ?_ _) | (with_reducible refine Kd.C_drewN ?_ _) | (with_reducible refine Kd.C_drew ?_))); (case side2 => exact HC0.out); rintro e w' ⟨rfl, ⟨nd, rfl⟩⟩; refine ⟨_, rfl, ?_⟩) | ((with_reducible refine gate_callee (f := 42) rfl ?_); refine sqL (some 36) Try.func42 #[.int .i64 t315] ?_; (with_reducible refine (spec_NumWrap.calls t315 t316 _ A15.out).mono ?_); rintro e w' ⟨rfl, ⟨nd, rfl⟩⟩; refine ⟨_, rfl, ?_⟩))
            (try simp only [Act.put, List.setIfInBounds_toArray, List.set_cons_zero, List.set_cons_succ])
            go_cut [8] (fun v8 wc => ∃ (kq : Nat) (x8_15 : Int), v8 = .int .i64 x8_15 ∧ Aside0 (laws_FnRangeStill.j1 kq l0 t307 x6_1 x7_1 x8_15 x311000_1 x311001_1 = some r) ∧ Aside0 (kq ≤ k1) ∧ Aside0 (Kd.R (Kd.int .i64) 3 wc w.heap.size (fun _ => True) v308 t307) ∧ Aside0 (wc.heap[gb310]? = some (.cells #[.int .i64 x311000_1, .int .i64 x311001_1] 27 (0, 0))) ∧ Aside0 (wc.heap[gb311]? = some (.cells #[.int .i64 t305, .int .i64 t306] 27 (0, 0))) ∧ Aside0 (Below w.heap.size w wc))
            case first =>
              have H := HC16.out
              clear HC16
              by_cases c17 : (Int.tmod x7_1 3) = 0
              · rw [if_pos c17] at H
                have c17b0 : ((Int.tmod x7_1 3) == 0) = true := beq_iff_eq.mpr c17
                have c17b1 : ((Int.tmod x7_1 3) != 0) = false := bne_eq_false_iff_eq.mpr c17
                clear c17
                (first | rw [c17b0] | (simp only [i64_w, i32_w]; rw [c17b0]) | skip)
                replace H := Option.bind_eq_some_iff.mp H
                obtain ⟨t317, A180, H⟩ := H
                replace H : (laws_FnRangeStill.j1 k1 l0 t307 x6_1 x7_1 (wrap64 ((wrap64 (t317)) - 128)) x311000_1 x311001_1) = some r := H
                have A18 := Aside0.mk A180
                clear A180
                have H' := Aside0.mk H
                clear H
                go_wp2_with (first | ((with_reducible refine gate_callee (f := 38) rfl ?_); refine sqL (some 42) Try.func38 #[.slice A0 l0.length c0, .int .i64 x7_1] ?_; (with_reducible refine (laws_at.calls _ _ l0 x7_1 t317 _ ?side1 ?side2 A18.out).mono ?_); (case side1 => repeat (first | exact (Kd.C_below HR0.out HB.out) | (with_reducible refine Kd.C_alloc ?_ _) | (with_reducible refine Kd.C_drewN ?_ _) | (with_reducible refine Kd.C_drew ?_))); (case side2 => exact HC0.out); rintro e w' ⟨rfl, ⟨nd, rfl⟩⟩; refine ⟨_, rfl, ?_⟩))
                go_meet
                case rel => exact ⟨_, (wrap64 ((wrap64 (t317)) - 128)), (by first | rfl | (simp; done) | (simp [*]; done)), H', ⟨by have := HK1.out; first | omega | exact Nat.le_refl _⟩, ⟨by (with_reducible repeat (first | apply Kd.R_alloc | apply Kd.R_drewN | apply Kd.R_drew)); exact HO_5.out⟩, sqk BK310, sqk BK311, sqh HB⟩
              · rw [if_neg c17] at H
                have c17b0 : ((Int.tmod x7_1 3) == 0) = false := beq_eq_false_iff_ne.mpr c17
                have c17b1 : ((Int.tmod x7_1 3) != 0) = true := bne_iff_ne.mpr c17
                (first | rw [c17b0] | (simp only [i64_w, i32_w]; rw [c17b0]) | skip)
                have H' := Aside0.mk H
                clear H
                go_wp2
                go_meet
                case rel => exact ⟨_, (t316), (by first | rfl | (simp; done) | (simp [*]; done)), H', ⟨by have := HK1.out; first | omega | exact Nat.le_refl _⟩, ⟨by (with_reducible repeat (first | apply Kd.R_alloc | apply Kd.R_drewN | apply Kd.R_drew)); exact HO_5.out⟩, sqk BK310, sqk BK311, sqh HB⟩
            case rest =>
              clear HC16
              try clear c1
              try clear c2
              try clear c2b0
              try clear c2b1
              try clear p2
              try clear c3
              try clear c4
              try clear c5
              try clear c9
              try clear c11
              try clear c13
              try clear c13b0
              try clear hcz10_0
              try clear hcz10_1
              try clear hcz11_0
              try clear hcz11_1
              try clear hfz10_0
              try clear hfz10_1
              try clear hfz11_0
              try clear hfz11_1
              try clear p2
              obtain ⟨kq, x8_15, rfl, HA, HJ15, HO_5, BK310, BK311, HB⟩ := hcut
              cases kq with
              | zero => exact absurd HA.out (by simp [laws_FnRangeStill.j1])
              | succ kj15 =>
                have H := HA.out
                clear HA
                simp only [laws_FnRangeStill.j1] at H
                replace H := Option.bind_eq_some_iff.mp H
                obtain ⟨⟨t318, t319⟩, A190, H⟩ := H
                replace H : ((spec_RangeWiden.f kj15 x311000_1 x311001_1 x8_15 x8_15 t307).bind fun bt321 => (if (!(t318 == bt321.1) || (!(t319 == bt321.2))) = true then (laws_FnRangeStill.j2 kj15 l0 t307 x6_1 x7_1 true x311000_1 x311001_1 t318 t319) else ((impl_RangeIn.f x311000_1 x311001_1 t318 t319).bind fun t323 => (laws_FnRangeStill.j2 kj15 l0 t307 x6_1 x7_1 (!t323) x311000_1 x311001_1 t318 t319)))) = some r := H
                have A19 := Aside0.mk A190
                clear A190
                have HC20 := Aside0.mk H
                clear H
                have hnb21 := NB310_311.out
                have hnc21 := NB311_310.out
                obtain ⟨hcz22_0, hcz22_1, hfz22_0, hfz22_1⟩ := sqc2 BK310
                obtain ⟨Ao23, co23, eo23⟩ := Kd.R_slice HO_5.out
                subst eo23
                go_upto_region 14 with (first | ((with_reducible refine gate_callee (f := 41) rfl ?_); refine sqL (some 50) Try.func41 #[.agg #[.int .i64 x311000_1, .int .i64 x311001_1], .agg #[.int .i64 x8_15, .int .i64 x8_15], .slice Ao23 t307.length co23] ?_; (with_reducible refine (impl_RangeWiden.calls kj15 x311000_1 x311001_1 x8_15 x8_15 _ _ t307 t318 t319 _ ?side1 ?side2 A19.out).mono ?_); (case side1 => repeat (first | exact (Kd.R_reads' HO_5.out).2.2 | (with_reducible refine Kd.C_alloc ?_ _) | (with_reducible refine Kd.C_drewN ?_ _) | (with_reducible refine Kd.C_drew ?_))); (case side2 => exact (Kd.R_reads' HO_5.out).2.1); rintro e w24 ⟨rfl, hb⟩; refine ⟨_, rfl, ?_⟩; have n0_ := Aside0.mk (Kd.R_below (by (with_reducible repeat (first | apply Kd.R_alloc | apply Kd.R_drewN | apply Kd.R_drew)); exact HO_5.out) hb); have n1_ := sqb BK310 hb; have n2_ := sqb BK311 hb; have n3_ := sqs HB hb; clear HO_5; clear BK310; clear BK311; clear HB; have HO_5 := n0_; have BK310 := n1_; have BK311 := n2_; have HB := n3_; clear n0_ n1_ n2_ n3_; (try clear hb)) | ((with_reducible refine gate_dst (N := 9) rfl ?_); refine sqx 9 #[.int .i64 0, .int .i64 0] 27 ?_; intro gb320 hg w25 hbox hb; have n0_ := Aside0.mk (Kd.R_below (by (with_reducible repeat (first | apply Kd.R_alloc | apply Kd.R_drewN | apply Kd.R_drew)); exact HO_5.out) hb); have n1_ := sqb BK310 hb; have n2_ := sqb BK311 hb; have n3_ := sqs HB hb; have n4_ := Aside0.mk (hbox); have n5_ := sqg HB hg; have n6_ := sqg HB hg; have n7_ := sqn BK310 hg; have n8_ := sqm BK310 hg; have n9_ := sqn BK311 hg; have n10_ := sqm BK311 hg; clear HO_5; clear BK310; clear BK311; clear HB; have HO_5 := n0_; have BK310 := n1_; have BK311 := n2_; have HB := n3_; have BK320 := n4_; have GW320 := n5_; have GE320 := n6_; have NB310_320 := n7_; have NB320_310 := n8_; have NB311_320 := n9_; have NB320_311 := n10_; clear n0_ n1_ n2_ n3_ n4_ n5_ n6_ n7_ n8_ n9_ n10_; clear hb hbox hg; have hnb26 := NB320_310.out; have hnc26 := NB310_320.out; have hnb27 := NB320_311.out; have hnc27 := NB311_320.out; obtain ⟨hcz28_0, hcz28_1, hfz28_0, hfz28_1⟩ := sqc2 BK320))
                (try simp only [Act.put, List.setIfInBounds_toArray, List.set_cons_zero, List.set_cons_succ])
                go_cut [64] (fun v64 wc => ∃ (kq : Nat) (x64_19 : Bool), v64 = .bool x64_19 ∧ Aside0 (laws_FnRangeStill.j2 kq l0 t307 x6_1 x7_1 x64_19 x311000_1 x311001_1 t318 t319 = some r) ∧ Aside0 (kq ≤ kj15) ∧ Aside0 (Kd.R (Kd.int .i64) 3 wc w.heap.size (fun _ => True) (.slice Ao23 t307.length co23) t307) ∧ Aside0 (wc.heap[gb310]? = some (.cells #[.int .i64 x311000_1, .int .i64 x311001_1] 27 (0, 0))) ∧ Aside0 (wc.heap[gb311]? = some (.cells #[.int .i64 t305, .int .i64 t306] 27 (0, 0))) ∧ Aside0 (wc.heap[gb320]? = some (.cells #[.int .i64 t318, .int .i64 t319] 27 (0, 0))) ∧ Aside0 (Below w.heap.size w wc))
                case first =>
                  have H := HC20.out
                  clear HC20
                  replace H := Option.bind_eq_some_iff.mp H
                  obtain ⟨⟨t321, t322⟩, A290, H⟩ := H
                  replace H : (if (!(t318 == t321) || (!(t319 == t322))) = true then (laws_FnRangeStill.j2 kj15 l0 t307 x6_1 x7_1 true x311000_1 x311001_1 t318 t319) else ((impl_RangeIn.f x311000_1 x311001_1 t318 t319).bind fun t323 => (laws_FnRangeStill.j2 kj15 l0 t307 x6_1 x7_1 (!t323) x311000_1 x311001_1 t318 t319))) = some r := H
                  have A29 := Aside0.mk A290
                  clear A290
                  by_cases c30 : (!(t318 == t321) || (!(t319 == t322))) = true
                  · rw [if_pos c30] at H
                    have c30b0 : (!(t318 == t321) || (!(t319 == t322))) = true := c30
                    clear c30
                    (first | rw [c30b0] | (simp only [i64_w, i32_w]; rw [c30b0]) | skip)
                    have H' := Aside0.mk H
                    clear H
                    try go_wp2
                    have n0_ : Aside0 (Kd.R (Kd.int .i64) 3 ((w25.setCell ⟨gb320, 0, none⟩ (.int .i64 t318)).setCell ⟨gb320, 1, none⟩ (.int .i64 t319)) w.heap.size (fun _ => True) (.slice Ao23 t307.length co23) t307) := ⟨by (with_reducible repeat (first | apply Kd.R_alloc | apply Kd.R_drewN | apply Kd.R_drew)); exact Kd.R_mono (Kd.R_far (p := ⟨gb320, 1, none⟩) (Kd.R_far (p := ⟨gb320, 0, none⟩) (Kd.R_types HO_5.out BK320.out (by decide)) (fun _ hk => hk.2) (.int .i64 t318)) (fun _ hk => hk.2) (.int .i64 t319)) (fun _ hk => trivial)⟩
                    have n1_ : Aside0 (((w25.setCell ⟨gb320, 0, none⟩ (.int .i64 t318)).setCell ⟨gb320, 1, none⟩ (.int .i64 t319)).heap[gb310]? = some (.cells #[.int .i64 x311000_1, .int .i64 x311001_1] 27 (0, 0))) := ⟨by refine sqt ?_; refine blk_far ?_ NB310_320.out _; refine sqt ?_; refine blk_far ?_ NB310_320.out _; refine sqt ?_; exact BK310.out⟩
                    have n2_ : Aside0 (((w25.setCell ⟨gb320, 0, none⟩ (.int .i64 t318)).setCell ⟨gb320, 1, none⟩ (.int .i64 t319)).heap[gb311]? = some (.cells #[.int .i64 t305, .int .i64 t306] 27 (0, 0))) := ⟨by refine sqt ?_; refine blk_far ?_ NB311_320.out _; refine sqt ?_; refine blk_far ?_ NB311_320.out _; refine sqt ?_; exact BK311.out⟩
                    have n3_ : Aside0 (((w25.setCell ⟨gb320, 0, none⟩ (.int .i64 t318)).setCell ⟨gb320, 1, none⟩ (.int .i64 t319)).heap[gb320]? = some (.cells #[.int .i64 t318, .int .i64 t319] 27 (0, 0))) := ⟨by refine sqt ?_; refine blk_put (cs := #[.int .i64 t318, .int .i64 0]) ?_ 1 _ rfl; refine sqt ?_; refine blk_put (cs := #[.int .i64 0, .int .i64 0]) ?_ 0 _ rfl; refine sqt ?_; exact BK320.out⟩
                    have n4_ : Aside0 (Below w.heap.size w ((w25.setCell ⟨gb320, 0, none⟩ (.int .i64 t318)).setCell ⟨gb320, 1, none⟩ (.int .i64 t319))) := sqh HB
                    (try clear HO_5)
                    (try clear BK310)
                    (try clear BK311)
                    (try clear BK320)
                    (try clear HB)
                    generalize ((w25.setCell ⟨gb320, 0, none⟩ (.int .i64 t318)).setCell ⟨gb320, 1, none⟩ (.int .i64 t319)) = w31 at n0_ n1_ n2_ n3_ n4_ ⊢
                    have HO_5 := n0_
                    have BK310 := n1_
                    have BK311 := n2_
                    have BK320 := n3_
                    have HB := n4_
                    clear n0_ n1_ n2_ n3_ n4_
                    replace HO_5 := Aside0.mk (Kd.R_drew HO_5.out)
                    replace BK310 := Aside0.mk (blk_drew BK310.out)
                    replace BK311 := Aside0.mk (blk_drew BK311.out)
                    replace BK320 := Aside0.mk (blk_drew BK320.out)
                    replace HB := Aside0.mk (below_drew1 HB.out)
                    refine start_ (n := 14) (S := fun w' => w'.cell? ⟨gb320, 0, none⟩ = some (.int .i64 t318) ∧ w'.cell? ⟨gb320, 1, none⟩ = some (.int .i64 t319) ∧ w'.cell? ⟨gb310, 0, none⟩ = some (.int .i64 x311000_1) ∧ w'.cell? ⟨gb310, 1, none⟩ = some (.int .i64 x311001_1)) (ds := []) #[false, false, false, false, false, false, false, false, false, false, false, false, false, false] (by kernel_rfl) rfl rfl ⟨(blk_cell BK320.out 0).trans rfl, (blk_cell BK320.out 1).trans rfl, (blk_cell BK310.out 0).trans rfl, (blk_cell BK310.out 1).trans rfl⟩ (fun hHeld => ?_); refine with_tabW laws_FnRangeStill.tab14 laws_FnRangeStill.bits14 (fun HT_ HW_ => ?_)
                    generalize w31.drew = w32 at HO_5 BK310 BK311 BK320 HB hHeld ⊢
                    refine sqp HT_ 2 53 ?_
                    refine sqp HT_ 3 54 ?_
                    refine sqp HT_ 4 55 ?_
                    refine sqp HT_ 5 56 ?_
                    refine sqw HT_ HW_ 0 51 hHeld ?_
                    refine sqw HT_ HW_ 1 52 hHeld ?_
                    refine sqo HT_ 6 57 (fun K hK => ?_)
                    refine sqG Try.func44 #[.agg #[.int .i64 x311000_1, .int .i64 x311001_1], .agg #[.int .i64 x8_15, .int .i64 x8_15], .slice Ao23 t307.length co23] ?_
                    with_reducible refine (spec_RangeWiden.calls kj15 x311000_1 x311001_1 x8_15 x8_15 _ _ t307 t321 t322 _ ?side1 ?side2 A29.out).mono ?_
                    (case side1 => repeat (first | exact (Kd.R_reads' HO_5.out).2.2 | (with_reducible refine Kd.C_alloc ?_ _) | (with_reducible refine Kd.C_drewN ?_ _) | (with_reducible refine Kd.C_drew ?_)))
                    (case side2 => exact (Kd.R_reads' HO_5.out).2.1)
                    rintro e w33 ⟨rfl, hb⟩
                    refine ⟨_, rfl, ?_⟩
                    have n0_ := Aside0.mk (Kd.R_below (by (with_reducible repeat (first | apply Kd.R_alloc | apply Kd.R_drewN | apply Kd.R_drew)); exact HO_5.out) hb)
                    have n1_ := sqb BK310 hb
                    have n2_ := sqb BK311 hb
                    have n3_ := sqb BK320 hb
                    have n4_ := sqs HB hb
                    clear HO_5
                    clear BK310
                    clear BK311
                    clear BK320
                    clear HB
                    have HO_5 := n0_
                    have BK310 := n1_
                    have BK311 := n2_
                    have BK320 := n3_
                    have HB := n4_
                    clear n0_ n1_ n2_ n3_ n4_
                    (try clear hb)
                    refine hK.out _ _ sqz (fun hHeld => ?_)
                    clear hK K
                    refine sqnm ?_
                    refine sqp HT_ 7 58 ?_
                    refine sqp HT_ 8 59 ?_
                    refine sqpu HT_ 9 60 ?_
                    refine sqpu HT_ 10 61 ?_
                    refine sqpu HT_ 11 62 ?_
                    refine sqpu HT_ 12 63 ?_
                    refine sqp HT_ 13 64 ?_
                    refine done_ (done_of HT_.out (by kernel_rfl)) ?_
                    try go_wp2
                    go_meet
                    case rel => exact ⟨_, (true), (by first | rfl | (simp; done) | (simp [*]; done)), H', ⟨by have := HK1.out; have := HJ15.out; first | omega | exact Nat.le_refl _⟩, ⟨by (with_reducible repeat (first | apply Kd.R_alloc | apply Kd.R_drewN | apply Kd.R_drew)); exact HO_5.out⟩, sqk BK310, sqk BK311, sqk BK320, sqh HB⟩
                  · rw [if_neg c30] at H
                    have c30b0 : (!(t318 == t321) || (!(t319 == t322))) = false := by simpa using c30
                    clear c30
                    (first | rw [c30b0] | (simp only [i64_w, i32_w]; rw [c30b0]) | skip)
                    replace H := Option.bind_eq_some_iff.mp H
                    obtain ⟨t323, A340, H⟩ := H
                    replace H : (laws_FnRangeStill.j2 kj15 l0 t307 x6_1 x7_1 (!t323) x311000_1 x311001_1 t318 t319) = some r := H
                    have A34 := Aside0.mk A340
                    clear A340
                    have H' := Aside0.mk H
                    clear H
                    try go_wp2
                    have n0_ : Aside0 (Kd.R (Kd.int .i64) 3 ((w25.setCell ⟨gb320, 0, none⟩ (.int .i64 t318)).setCell ⟨gb320, 1, none⟩ (.int .i64 t319)) w.heap.size (fun _ => True) (.slice Ao23 t307.length co23) t307) := ⟨by (with_reducible repeat (first | apply Kd.R_alloc | apply Kd.R_drewN | apply Kd.R_drew)); exact Kd.R_mono (Kd.R_far (p := ⟨gb320, 1, none⟩) (Kd.R_far (p := ⟨gb320, 0, none⟩) (Kd.R_types HO_5.out BK320.out (by decide)) (fun _ hk => hk.2) (.int .i64 t318)) (fun _ hk => hk.2) (.int .i64 t319)) (fun _ hk => trivial)⟩
                    have n1_ : Aside0 (((w25.setCell ⟨gb320, 0, none⟩ (.int .i64 t318)).setCell ⟨gb320, 1, none⟩ (.int .i64 t319)).heap[gb310]? = some (.cells #[.int .i64 x311000_1, .int .i64 x311001_1] 27 (0, 0))) := ⟨by refine sqt ?_; refine blk_far ?_ NB310_320.out _; refine sqt ?_; refine blk_far ?_ NB310_320.out _; refine sqt ?_; exact BK310.out⟩
                    have n2_ : Aside0 (((w25.setCell ⟨gb320, 0, none⟩ (.int .i64 t318)).setCell ⟨gb320, 1, none⟩ (.int .i64 t319)).heap[gb311]? = some (.cells #[.int .i64 t305, .int .i64 t306] 27 (0, 0))) := ⟨by refine sqt ?_; refine blk_far ?_ NB311_320.out _; refine sqt ?_; refine blk_far ?_ NB311_320.out _; refine sqt ?_; exact BK311.out⟩
                    have n3_ : Aside0 (((w25.setCell ⟨gb320, 0, none⟩ (.int .i64 t318)).setCell ⟨gb320, 1, none⟩ (.int .i64 t319)).heap[gb320]? = some (.cells #[.int .i64 t318, .int .i64 t319] 27 (0, 0))) := ⟨by refine sqt ?_; refine blk_put (cs := #[.int .i64 t318, .int .i64 0]) ?_ 1 _ rfl; refine sqt ?_; refine blk_put (cs := #[.int .i64 0, .int .i64 0]) ?_ 0 _ rfl; refine sqt ?_; exact BK320.out⟩
                    have n4_ : Aside0 (Below w.heap.size w ((w25.setCell ⟨gb320, 0, none⟩ (.int .i64 t318)).setCell ⟨gb320, 1, none⟩ (.int .i64 t319))) := sqh HB
                    (try clear HO_5)
                    (try clear BK310)
                    (try clear BK311)
                    (try clear BK320)
                    (try clear HB)
                    generalize ((w25.setCell ⟨gb320, 0, none⟩ (.int .i64 t318)).setCell ⟨gb320, 1, none⟩ (.int .i64 t319)) = w35 at n0_ n1_ n2_ n3_ n4_ ⊢
                    have HO_5 := n0_
                    have BK310 := n1_
                    have BK311 := n2_
                    have BK320 := n3_
                    have HB := n4_
                    clear n0_ n1_ n2_ n3_ n4_
                    replace HO_5 := Aside0.mk (Kd.R_drew HO_5.out)
                    replace BK310 := Aside0.mk (blk_drew BK310.out)
                    replace BK311 := Aside0.mk (blk_drew BK311.out)
                    replace BK320 := Aside0.mk (blk_drew BK320.out)
                    replace HB := Aside0.mk (below_drew1 HB.out)
                    refine start_ (n := 14) (S := fun w' => w'.cell? ⟨gb320, 0, none⟩ = some (.int .i64 t318) ∧ w'.cell? ⟨gb320, 1, none⟩ = some (.int .i64 t319) ∧ w'.cell? ⟨gb310, 0, none⟩ = some (.int .i64 x311000_1) ∧ w'.cell? ⟨gb310, 1, none⟩ = some (.int .i64 x311001_1)) (ds := []) #[false, false, false, false, false, false, false, false, false, false, false, false, false, false] (by kernel_rfl) rfl rfl ⟨(blk_cell BK320.out 0).trans rfl, (blk_cell BK320.out 1).trans rfl, (blk_cell BK310.out 0).trans rfl, (blk_cell BK310.out 1).trans rfl⟩ (fun hHeld => ?_); refine with_tabW laws_FnRangeStill.tab14 laws_FnRangeStill.bits14 (fun HT_ HW_ => ?_)
                    generalize w35.drew = w36 at HO_5 BK310 BK311 BK320 HB hHeld ⊢
                    refine sqp HT_ 2 53 ?_
                    refine sqp HT_ 3 54 ?_
                    refine sqp HT_ 4 55 ?_
                    refine sqp HT_ 5 56 ?_
                    refine sqw HT_ HW_ 0 51 hHeld ?_
                    refine sqw HT_ HW_ 1 52 hHeld ?_
                    refine sqo HT_ 6 57 (fun K hK => ?_)
                    refine sqG Try.func44 #[.agg #[.int .i64 x311000_1, .int .i64 x311001_1], .agg #[.int .i64 x8_15, .int .i64 x8_15], .slice Ao23 t307.length co23] ?_
                    with_reducible refine (spec_RangeWiden.calls kj15 x311000_1 x311001_1 x8_15 x8_15 _ _ t307 t321 t322 _ ?side1 ?side2 A29.out).mono ?_
                    (case side1 => repeat (first | exact (Kd.R_reads' HO_5.out).2.2 | (with_reducible refine Kd.C_alloc ?_ _) | (with_reducible refine Kd.C_drewN ?_ _) | (with_reducible refine Kd.C_drew ?_)))
                    (case side2 => exact (Kd.R_reads' HO_5.out).2.1)
                    rintro e w37 ⟨rfl, hb⟩
                    refine ⟨_, rfl, ?_⟩
                    have n0_ := Aside0.mk (Kd.R_below (by (with_reducible repeat (first | apply Kd.R_alloc | apply Kd.R_drewN | apply Kd.R_drew)); exact HO_5.out) hb)
                    have n1_ := sqb BK310 hb
                    have n2_ := sqb BK311 hb
                    have n3_ := sqb BK320 hb
                    have n4_ := sqs HB hb
                    clear HO_5
                    clear BK310
                    clear BK311
                    clear BK320
                    clear HB
                    have HO_5 := n0_
                    have BK310 := n1_
                    have BK311 := n2_
                    have BK320 := n3_
                    have HB := n4_
                    clear n0_ n1_ n2_ n3_ n4_
                    (try clear hb)
                    refine hK.out _ _ sqz (fun hHeld => ?_)
                    clear hK K
                    refine sqnm ?_
                    refine sqp HT_ 7 58 ?_
                    refine sqp HT_ 8 59 ?_
                    refine sqw HT_ HW_ 9 60 hHeld ?_
                    refine sqw HT_ HW_ 10 61 hHeld ?_
                    refine sqo HT_ 11 62 (fun K hK => ?_)
                    refine sqG Try.func45 #[.agg #[.int .i64 x311000_1, .int .i64 x311001_1], .agg #[.int .i64 t318, .int .i64 t319]] ?_
                    with_reducible refine (impl_RangeIn.calls x311000_1 x311001_1 t318 t319 t323 _ A34.out).mono ?_
                    rintro e w38 ⟨rfl, hb⟩
                    refine ⟨_, rfl, ?_⟩
                    have n0_ := Aside0.mk (Kd.R_below (by (with_reducible repeat (first | apply Kd.R_alloc | apply Kd.R_drewN | apply Kd.R_drew)); exact HO_5.out) hb)
                    have n1_ := sqb BK310 hb
                    have n2_ := sqb BK311 hb
                    have n3_ := sqb BK320 hb
                    have n4_ := sqs HB hb
                    clear HO_5
                    clear BK310
                    clear BK311
                    clear BK320
                    clear HB
                    have HO_5 := n0_
                    have BK310 := n1_
                    have BK311 := n2_
                    have BK320 := n3_
                    have HB := n4_
                    clear n0_ n1_ n2_ n3_ n4_
                    (try clear hb)
                    refine hK.out _ _ sqz (fun hHeld => ?_)
                    clear hK K
                    refine sqnm ?_
                    refine sqp HT_ 12 63 ?_
                    refine sqp HT_ 13 64 ?_
                    refine done_ (done_of HT_.out (by kernel_rfl)) ?_
                    try go_wp2
                    go_meet
                    case rel => exact ⟨_, (!t323), (by first | rfl | (simp; done) | (simp [*]; done)), H', ⟨by have := HK1.out; have := HJ15.out; first | omega | exact Nat.le_refl _⟩, ⟨by (with_reducible repeat (first | apply Kd.R_alloc | apply Kd.R_drewN | apply Kd.R_drew)); exact HO_5.out⟩, sqk BK310, sqk BK311, sqk BK320, sqh HB⟩
                case rest =>
                  clear HC20
                  try clear c1
                  try clear c2
                  try clear c2b0
                  try clear c2b1
                  try clear p2
                  try clear c3
                  try clear c4
                  try clear c5
                  try clear c9
                  try clear c11
                  try clear c13
                  try clear c13b0
                  try clear c17
                  try clear c17b0
                  try clear c17b1
                  try clear hcz10_0
                  try clear hcz10_1
                  try clear hcz11_0
                  try clear hcz11_1
                  try clear hcz22_0
                  try clear hcz22_1
                  try clear hcz28_0
                  try clear hcz28_1
                  try clear hfz10_0
                  try clear hfz10_1
                  try clear hfz11_0
                  try clear hfz11_1
                  try clear hfz22_0
                  try clear hfz22_1
                  try clear hfz28_0
                  try clear hfz28_1
                  try clear p2
                  obtain ⟨kq, x64_19, rfl, HA, HJ19, HO_5, BK310, BK311, BK320, HB⟩ := hcut
                  cases kq with
                  | zero => exact absurd HA.out (by simp [laws_FnRangeStill.j2])
                  | succ kj19 =>
                    have H := HA.out
                    clear HA
                    simp only [laws_FnRangeStill.j2] at H
                    by_cases c39 : x64_19 = true
                    · subst c39
                      have H1 : (some false) = some r := by rw [if_pos rfl] at H; exact H
                      clear H
                      have H := H1
                      clear H1
                      obtain rfl := Option.some.inj H
                      go_wp2
                      go_ret
                      exact sqe HB
                    · replace c39 := Bool.eq_false_iff.mpr c39
                      subst c39
                      have H1 : (if (!(t318 == x311000_1) || (!(t319 == x311001_1))) = true then (laws_FnRangeStill.l0 kj19 l0 t307 (wrap64 (x6_1 + 1)) (wrap64 (x7_1 + 1)) t318 t319) else (laws_FnRangeStill.l0 kj19 l0 t307 x6_1 (wrap64 (x7_1 + 1)) t318 t319)) = some r := by rw [if_neg (show ¬ (false = true) by decide)] at H; exact H
                      clear H
                      have H := H1
                      clear H1
                      by_cases c40 : (!(t318 == x311000_1) || (!(t319 == x311001_1))) = true
                      · rw [if_pos c40] at H
                        have c40b0 : (!(t318 == x311000_1) || (!(t319 == x311001_1))) = true := c40
                        clear c40
                        have H' := Aside0.mk H
                        clear H
                        have hnb41 := NB320_310.out
                        have hnc41 := NB310_320.out
                        have hnb42 := NB320_311.out
                        have hnc42 := NB311_320.out
                        obtain ⟨hcz43_0, hcz43_1, hfz43_0, hfz43_1⟩ := sqc2 BK320
                        have hnb44 := NB310_311.out
                        have hnc44 := NB311_310.out
                        obtain ⟨hcz45_0, hcz45_1, hfz45_0, hfz45_1⟩ := sqc2 BK310
                        go_wp2
                        go_roundg kj19
                        case measure => have := HK1.out; have := HJ15.out; have := HJ19.out; omega
                        case rel => exact ⟨(wrap64 (x6_1 + 1)), (wrap64 (x7_1 + 1)), (t318), (t319), (by first | rfl | (simp; done) | (simp [*]; done)), (by first | rfl | (simp; done) | (simp [*]; done)), H', ⟨by have := HK1.out; have := HJ15.out; have := HJ19.out; omega⟩, ⟨by (with_reducible repeat (first | apply Kd.R_alloc | apply Kd.R_drewN | apply Kd.R_drew)); exact Kd.R_mono (Kd.R_far (p := ⟨gb310, 1, none⟩) (Kd.R_far (p := ⟨gb310, 0, none⟩) (Kd.R_types HO_5.out BK310.out (by decide)) (fun _ hk => hk.2) (.int .i64 t318)) (fun _ hk => hk.2) (.int .i64 t319)) (fun _ hk => trivial)⟩, ⟨by refine sqt ?_; refine blk_put (cs := #[.int .i64 t318, .int .i64 x311001_1]) ?_ 1 _ rfl; refine sqt ?_; refine blk_put (cs := #[.int .i64 x311000_1, .int .i64 x311001_1]) ?_ 0 _ rfl; refine sqt ?_; exact BK310.out⟩, ⟨by refine sqt ?_; refine blk_far ?_ NB311_310.out _; refine sqt ?_; refine blk_far ?_ NB311_310.out _; refine sqt ?_; exact BK311.out⟩, sqh HB⟩
                      · rw [if_neg c40] at H
                        have c40b0 : (!(t318 == x311000_1) || (!(t319 == x311001_1))) = false := by simpa using c40
                        clear c40
                        have H' := Aside0.mk H
                        clear H
                        have hnb46 := NB320_310.out
                        have hnc46 := NB310_320.out
                        have hnb47 := NB320_311.out
                        have hnc47 := NB311_320.out
                        obtain ⟨hcz48_0, hcz48_1, hfz48_0, hfz48_1⟩ := sqc2 BK320
                        have hnb49 := NB310_311.out
                        have hnc49 := NB311_310.out
                        obtain ⟨hcz50_0, hcz50_1, hfz50_0, hfz50_1⟩ := sqc2 BK310
                        go_wp2
                        go_roundg kj19
                        case measure => have := HK1.out; have := HJ15.out; have := HJ19.out; omega
                        case rel => exact ⟨(x6_1), (wrap64 (x7_1 + 1)), (t318), (t319), (by first | rfl | (simp; done) | (simp [*]; done)), (by first | rfl | (simp; done) | (simp [*]; done)), H', ⟨by have := HK1.out; have := HJ15.out; have := HJ19.out; omega⟩, ⟨by (with_reducible repeat (first | apply Kd.R_alloc | apply Kd.R_drewN | apply Kd.R_drew)); exact Kd.R_mono (Kd.R_far (p := ⟨gb310, 1, none⟩) (Kd.R_far (p := ⟨gb310, 0, none⟩) (Kd.R_types HO_5.out BK310.out (by decide)) (fun _ hk => hk.2) (.int .i64 t318)) (fun _ hk => hk.2) (.int .i64 t319)) (fun _ hk => trivial)⟩, ⟨by refine sqt ?_; refine blk_put (cs := #[.int .i64 t318, .int .i64 x311001_1]) ?_ 1 _ rfl; refine sqt ?_; refine blk_put (cs := #[.int .i64 x311000_1, .int .i64 x311001_1]) ?_ 0 _ rfl; refine sqt ?_; exact BK310.out⟩, ⟨by refine sqt ?_; refine blk_far ?_ NB311_310.out _; refine sqt ?_; refine blk_far ?_ NB311_310.out _; refine sqt ?_; exact BK311.out⟩, sqh HB⟩
          · rw [if_neg c13] at H
            have c13b0 : decide (x7_1 < 40) = false := decide_eq_false c13
            clear c13
            obtain rfl := Option.some.inj H
            obtain ⟨Ao51, co51, eo51⟩ := Kd.R_slice HO_5.out
            subst eo51
            go_wp2
            go_ret
            exact sqe HB
    · replace c5 := Bool.eq_false_iff.mpr c5
      subst c5
      have H1 : ((impl_RangeWiden.f k t303 t304 t303 t304 t307).bind fun bt313 => (some (bt313.1 == 1 && (bt313.2 == 0)))) = some r := by rw [if_neg (show ¬ (false = true) by decide)] at H; exact H
      clear H
      have H := H1
      clear H1
      replace H := Option.bind_eq_some_iff.mp H
      obtain ⟨⟨t313, t314⟩, A520, H⟩ := H
      replace H : (some (t313 == 1 && (t314 == 0))) = some r := H
      have A52 := Aside0.mk A520
      clear A520
      obtain rfl := Option.some.inj H
      go_enter Try.func11, Try.ntmps11
      go_wp2_with (first | ((with_reducible refine gate_callee (f := 39) rfl ?_); refine sqL (some 15) Try.func39 #[.slice A0 l0.length c0] ?_; (with_reducible refine (spec_DrawRangeWiden.calls k _ _ l0 t303 t304 t305 t306 t307 _ ?side1 ?side2 A3.out).mono ?_); (case side1 => repeat (first | exact HR0.out | (with_reducible refine Kd.C_alloc ?_ _) | (with_reducible refine Kd.C_drewN ?_ _) | (with_reducible refine Kd.C_drew ?_))); (case side2 => exact HC0.out); rintro e w53 ⟨v308, rfl, ho0, hb⟩; refine ⟨_, rfl, ?_⟩; have HO309 := Aside0.mk (Kd.R_lower ho0 (below_size (by repeat (first | (with_reducible first | exact HB.out | apply below_alloc | apply pw_below_drewN | apply below_drew1) | exact HB.out)))); replace HB := sqs HB hb; (try clear hb); (try clear hb2); (try clear hk); (try clear hi); (try clear ho0)) | ((with_reducible refine gate_dst (N := 3) rfl ?_); refine sqx 3 #[.int .i64 0, .int .i64 0] 27 ?_; intro gb310 hg w54 hbox hb; have n0_ := Aside0.mk (Kd.R_below (by (with_reducible repeat (first | apply Kd.R_alloc | apply Kd.R_drewN | apply Kd.R_drew)); exact HO309.out) hb); have n1_ := sqs HB hb; have n2_ := Aside0.mk (hbox); have n3_ := sqg HB hg; have n4_ := sqg HB hg; clear HO309; clear HB; have HO309 := n0_; have HB := n1_; have BK310 := n2_; have GW310 := n3_; have GE310 := n4_; clear n0_ n1_ n2_ n3_ n4_; clear hb hbox hg) | ((with_reducible refine gate_dst (N := 4) rfl ?_); refine sqx 4 #[.int .i64 0, .int .i64 0] 27 ?_; intro gb311 hg w55 hbox hb; have n0_ := Aside0.mk (Kd.R_below (by (with_reducible repeat (first | apply Kd.R_alloc | apply Kd.R_drewN | apply Kd.R_drew)); exact HO309.out) hb); have n1_ := sqb BK310 hb; have n2_ := sqs HB hb; have n3_ := Aside0.mk (hbox); have n4_ := sqg HB hg; have n5_ := sqg HB hg; have n6_ := sqn BK310 hg; have n7_ := sqm BK310 hg; clear HO309; clear BK310; clear HB; have HO309 := n0_; have BK310 := n1_; have HB := n2_; have BK311 := n3_; have GW311 := n4_; have GE311 := n5_; have NB310_311 := n6_; have NB311_310 := n7_; clear n0_ n1_ n2_ n3_ n4_ n5_ n6_ n7_; clear hb hbox hg; have hnb56 := NB310_311.out; have hnc56 := NB311_310.out; obtain ⟨hcz57_0, hcz57_1, hfz57_0, hfz57_1⟩ := sqc2 BK310; obtain ⟨hcz58_0, hcz58_1, hfz58_0, hfz58_1⟩ := sqc2 BK311) | ((with_reducible refine gate_callee (f := 40) rfl ?_); refine sqL (some 20) Try.func40 #[.agg #[.int .i64 t303, .int .i64 t304]] ?_; (with_reducible refine (spec_RangeOk.calls t303 t304 false _ A4.out).mono ?_); rintro e w59 ⟨rfl, hb⟩; refine ⟨_, rfl, ?_⟩; have n0_ := Aside0.mk (Kd.R_below (by (with_reducible repeat (first | apply Kd.R_alloc | apply Kd.R_drewN | apply Kd.R_drew)); exact (Kd.R_mono (Kd.R_mono (Kd.R_far (p := ⟨gb311, 1, none⟩) (Kd.R_far (p := ⟨gb311, 0, none⟩) (Kd.R_far (p := ⟨gb310, 1, none⟩) (Kd.R_far (p := ⟨gb310, 0, none⟩) (Kd.R_types (Kd.R_types HO309.out BK310.out (by decide)) BK311.out (by decide)) (fun _ hk => hk.1.2) (.int .i64 t303)) (fun _ hk => hk.1.2) (.int .i64 t304)) (fun _ hk => hk.2) (.int .i64 t305)) (fun _ hk => hk.2) (.int .i64 t306)) (fun _ h_ => h_.1)) (fun _ h_ => h_.1))) hb); have n1_ := Aside0.mk (blk_below (g := gb310) (o := .cells #[.int .i64 t303, .int .i64 t304] 27 (0, 0)) (by refine sqt ?_; refine blk_far ?_ NB310_311.out _; refine sqt ?_; refine blk_far ?_ NB310_311.out _; refine sqt ?_; refine blk_put (cs := #[.int .i64 t303, .int .i64 0]) ?_ 1 _ rfl; refine sqt ?_; refine blk_put (cs := #[.int .i64 0, .int .i64 0]) ?_ 0 _ rfl; refine sqt ?_; exact BK310.out) hb); have n2_ := Aside0.mk (blk_below (g := gb311) (o := .cells #[.int .i64 t305, .int .i64 t306] 27 (0, 0)) (by refine sqt ?_; refine blk_put (cs := #[.int .i64 t305, .int .i64 0]) ?_ 1 _ rfl; refine sqt ?_; refine blk_put (cs := #[.int .i64 0, .int .i64 0]) ?_ 0 _ rfl; refine sqt ?_; refine blk_far ?_ NB311_310.out _; refine sqt ?_; refine blk_far ?_ NB311_310.out _; refine sqt ?_; exact BK311.out) hb); have n3_ := sqs HB hb; clear HO309; clear BK310; clear BK311; clear HB; have HO309 := n0_; have BK310 := n1_; have BK311 := n2_; have HB := n3_; clear n0_ n1_ n2_ n3_; (try clear hb); (try clear hb2); (try clear hk); (try clear hi); obtain ⟨hcz60_0, hcz60_1, hfz60_0, hfz60_1⟩ := sqc2 BK310; obtain ⟨Ao61, co61, eo61⟩ := Kd.R_slice HO309.out; subst eo61) | ((with_reducible refine gate_callee (f := 41) rfl ?_); refine sqL (some 25) Try.func41 #[.agg #[.int .i64 t303, .int .i64 t304], .agg #[.int .i64 t303, .int .i64 t304], .slice Ao61 t307.length co61] ?_; (with_reducible refine (impl_RangeWiden.calls k t303 t304 t303 t304 _ _ t307 t313 t314 _ ?side1 ?side2 A52.out).mono ?_); (case side1 => repeat (first | exact (Kd.R_reads' HO309.out).2.2 | (with_reducible refine Kd.C_alloc ?_ _) | (with_reducible refine Kd.C_drewN ?_ _) | (with_reducible refine Kd.C_drew ?_))); (case side2 => exact (Kd.R_reads' HO309.out).2.1); rintro e w62 ⟨rfl, hb⟩; refine ⟨_, rfl, ?_⟩; have n0_ := Aside0.mk (Kd.R_below (by (with_reducible repeat (first | apply Kd.R_alloc | apply Kd.R_drewN | apply Kd.R_drew)); exact HO309.out) hb); have n1_ := sqb BK310 hb; have n2_ := sqb BK311 hb; have n3_ := sqs HB hb; clear HO309; clear BK310; clear BK311; clear HB; have HO309 := n0_; have BK310 := n1_; have BK311 := n2_; have HB := n3_; clear n0_ n1_ n2_ n3_; (try clear hb)))
      go_ret
      exact sqe HB

/-- THE ONE PURE STATEMENT of laws_FnRangeStill: yours. -/
theorem laws_FnRangeStill.walk (P : laws_FnRangeStill.Pure) (a0 : Option Addr) (len0 cap0 : Nat) (z0 : List Int) (w : World) (w0 : (a0 = none ∧ len0 = 0 ∧ cap0 = 0 ∧ z0 = []) ∨ ∃ x, a0 = some x ∧ len0 ≤ cap0 ∧ cap0 ≤ maxLen ∧ z0.length = cap0 ∧ (∀ i, i < z0.length → w.cell? (x.add i) = some (.int .u8 (z0.getD i 0))) ∧ ∀ n ∈ z0, (Lit.int .u8 n).wf = true) (y0 : len0 * 1 ≤ 140737488351232) :
    Calls Try.prog 11 #[.slice a0 len0 cap0] w fun e w' => e = .returned (.bool true) ∧ Below w.heap.size w w' := by
  obtain ⟨l0, rfl, hr0, hm0, hw0, hc0⟩ := ReadsInt.ofRowC w0
  obtain ⟨k, h⟩ := P l0 hm0 y0 hw0
  refine (laws_FnRangeStill.calls k _ _ l0 true w (Kd.C_of_reads (d := (0 : Int)) (h1 := fun _ => rfl) hr0) hc0 h).mono ?_
  rintro e w' ⟨rfl, hd⟩
  exact ⟨rfl, hd⟩

end Go.Proofs.Ytmdcgkkkfncieaa.PFnRangeStill
