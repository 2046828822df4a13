/- Functions of the program as plain Lean functions, and that calls of them come to what these tell. Conditions: those in each law. -/
import Derived.Test.YtmdcgkkkfncieaaSq
import Derived.Test.YtmdcgkkkfncieaaDFnRangeLattice
import Derived.Test.YtmdcgkkkfncieaaQFnRangeLatticex0
import Derived.Test.YtmdcgkkkfncieaaQFnRangeLatticex7
import Derived.Test.YtmdcgkkkfncieaaQFnRangeLatticex8
import Derived.Test.YtmdcgkkkfncieaaQFnRangeLatticex9
namespace Go.Proofs.Ytmdcgkkkfncieaa.PFnRangeLattice
open Go.RowKit Go.Proofs.Ytmdcgkkkfncieaa.Sq Go.Proofs.YtmdcgkkkfncieaaW.PrintWords Go.Proofs.YtmdcgkkkfncieaaW.PrintLast Go.Proofs.YtmdcgkkkfncieaaW.PrintMore
attribute [local go_sem] max2_int min2_int max_two min_two max_three min_three max_four min_four   -- for this text's walks alone
set_option linter.unusedVariables false
set_option linter.unusedSimpArgs false

/-! ### impl_RangeWiden: function 41 -/
theorem impl_RangeWiden.mono_l : ∀ k, (∀ y0 y1 y2 y3 y4 y5, LeO (impl_RangeWiden.j0 k y0 y1 y2 y3 y4 y5) (impl_RangeWiden.j0 (k + 1) y0 y1 y2 y3 y4 y5)) ∧ (∀ y0 y1 y2 y3 y4, LeO (impl_RangeWiden.j2 k y0 y1 y2 y3 y4) (impl_RangeWiden.j2 (k + 1) y0 y1 y2 y3 y4)) ∧ (∀ y0 y1 y2 y3 y4 y5, LeO (impl_RangeWiden.l1 k y0 y1 y2 y3 y4 y5) (impl_RangeWiden.l1 (k + 1) y0 y1 y2 y3 y4 y5)) ∧ (∀ y0 y1 y2 y3 y4 y5 y6 y7 y8, LeO (impl_RangeWiden.l0 k y0 y1 y2 y3 y4 y5 y6 y7 y8) (impl_RangeWiden.l0 (k + 1) y0 y1 y2 y3 y4 y5 y6 y7 y8))
  | 0 => ⟨fun _ _ _ _ _ _ r h => by simp [impl_RangeWiden.j0] at h, fun _ _ _ _ _ r h => by simp [impl_RangeWiden.j2] at h, fun _ _ _ _ _ _ r h => by simp [impl_RangeWiden.l1] at h, fun _ _ _ _ _ _ _ _ _ r h => by simp [impl_RangeWiden.l0] at h⟩
  | k + 1 => by
    obtain ⟨ih0, ih1, ih2, ih3⟩ := impl_RangeWiden.mono_l k
    refine ⟨?_, ?_, ?_, ?_⟩
    · intro y0 y1 y2 y3 y4 y5
      unfold impl_RangeWiden.j0
      repeat' first
      | (with_reducible exact ih0 _ _ _ _ _ _)
      | (with_reducible exact ih1 _ _ _ _ _)
      | (with_reducible exact ih2 _ _ _ _ _ _)
      | (with_reducible exact ih3 _ _ _ _ _ _ _ _ _)
      | (with_reducible exact impl_RangeJoin.mono _ _ _ _ _)
      | (with_reducible exact LeO.refl _)
      | (with_reducible exact LeO.none _)
      | (with_reducible refine LeO.ite ?_ ?_)
      | (with_reducible refine LeO.bind ?_ (fun _ => ?_))
      | exact ih0 _ _ _ _ _ _
      | exact ih1 _ _ _ _ _
      | exact ih2 _ _ _ _ _ _
      | exact ih3 _ _ _ _ _ _ _ _ _
      | exact impl_RangeJoin.mono _ _ _ _ _
      | exact LeO.none _
      | refine LeO.ite ?_ ?_
      | refine LeO.bind ?_ (fun _ => ?_)
    · intro y0 y1 y2 y3 y4
      unfold impl_RangeWiden.j2
      repeat' first
      | (with_reducible exact ih0 _ _ _ _ _ _)
      | (with_reducible exact ih1 _ _ _ _ _)
      | (with_reducible exact ih2 _ _ _ _ _ _)
      | (with_reducible exact ih3 _ _ _ _ _ _ _ _ _)
      | (with_reducible exact impl_RangeJoin.mono _ _ _ _ _)
      | (with_reducible exact LeO.refl _)
      | (with_reducible exact LeO.none _)
      | (with_reducible refine LeO.ite ?_ ?_)
      | (with_reducible refine LeO.bind ?_ (fun _ => ?_))
      | exact ih0 _ _ _ _ _ _
      | exact ih1 _ _ _ _ _
      | exact ih2 _ _ _ _ _ _
      | exact ih3 _ _ _ _ _ _ _ _ _
      | exact impl_RangeJoin.mono _ _ _ _ _
      | exact LeO.none _
      | refine LeO.ite ?_ ?_
      | refine LeO.bind ?_ (fun _ => ?_)
    · intro y0 y1 y2 y3 y4 y5
      unfold impl_RangeWiden.l1
      repeat' first
      | (with_reducible exact ih0 _ _ _ _ _ _)
      | (with_reducible exact ih1 _ _ _ _ _)
      | (with_reducible exact ih2 _ _ _ _ _ _)
      | (with_reducible exact ih3 _ _ _ _ _ _ _ _ _)
      | (with_reducible exact impl_RangeJoin.mono _ _ _ _ _)
      | (with_reducible exact LeO.refl _)
      | (with_reducible exact LeO.none _)
      | (with_reducible refine LeO.ite ?_ ?_)
      | (with_reducible refine LeO.bind ?_ (fun _ => ?_))
      | exact ih0 _ _ _ _ _ _
      | exact ih1 _ _ _ _ _
      | exact ih2 _ _ _ _ _ _
      | exact ih3 _ _ _ _ _ _ _ _ _
      | exact impl_RangeJoin.mono _ _ _ _ _
      | exact LeO.none _
      | refine LeO.ite ?_ ?_
      | refine LeO.bind ?_ (fun _ => ?_)
    · intro y0 y1 y2 y3 y4 y5 y6 y7 y8
      unfold impl_RangeWiden.l0
      repeat' first
      | (with_reducible exact ih0 _ _ _ _ _ _)
      | (with_reducible exact ih1 _ _ _ _ _)
      | (with_reducible exact ih2 _ _ _ _ _ _)
      | (with_reducible exact ih3 _ _ _ _ _ _ _ _ _)
      | (with_reducible exact impl_RangeJoin.mono _ _ _ _ _)
      | (with_reducible exact LeO.refl _)
      | (with_reducible exact LeO.none _)
      | (with_reducible refine LeO.ite ?_ ?_)
      | (with_reducible refine LeO.bind ?_ (fun _ => ?_))
      | exact ih0 _ _ _ _ _ _
      | exact ih1 _ _ _ _ _
      | exact ih2 _ _ _ _ _ _
      | exact ih3 _ _ _ _ _ _ _ _ _
      | exact impl_RangeJoin.mono _ _ _ _ _
      | exact LeO.none _
      | refine LeO.ite ?_ ?_
      | refine LeO.bind ?_ (fun _ => ?_)
theorem impl_RangeWiden.mono : ∀ a0 a1 a2 a3 a4 k, LeO (impl_RangeWiden.f k a0 a1 a2 a3 a4) (impl_RangeWiden.f (k + 1) a0 a1 a2 a3 a4) := by
  intro a0 a1 a2 a3 a4 k
  obtain ⟨ih0, ih1, ih2, ih3⟩ := impl_RangeWiden.mono_l k
  unfold impl_RangeWiden.f
  repeat' first
      | (with_reducible exact ih0 _ _ _ _ _ _)
      | (with_reducible exact ih1 _ _ _ _ _)
      | (with_reducible exact ih2 _ _ _ _ _ _)
      | (with_reducible exact ih3 _ _ _ _ _ _ _ _ _)
      | (with_reducible exact impl_RangeJoin.mono _ _ _ _ _)
      | (with_reducible exact LeO.refl _)
      | (with_reducible exact LeO.none _)
      | (with_reducible refine LeO.ite ?_ ?_)
      | (with_reducible refine LeO.bind ?_ (fun _ => ?_))
      | exact ih0 _ _ _ _ _ _
      | exact ih1 _ _ _ _ _
      | exact ih2 _ _ _ _ _ _
      | exact ih3 _ _ _ _ _ _ _ _ _
      | exact impl_RangeJoin.mono _ _ _ _ _
      | exact LeO.none _
      | refine LeO.ite ?_ ?_
      | refine LeO.bind ?_ (fun _ => ?_)
set_option maxHeartbeats 8000000 in
set_option maxRecDepth 100000 in
theorem impl_RangeWiden.calls (k : Nat) (a0_0 : Int) (a0_1 : Int) (a1_0 : Int) (a1_1 : Int) (A2 : Option Addr) (c2 : Nat) (l2 : List Int) (r1 : Int) (r2 : Int) (w : World) (hr2 : Kd.C (Kd.int .i64) w A2 l2.length l2) (hc2 : l2.length ≤ c2) (h : impl_RangeWiden.f k a0_0 a0_1 a1_0 a1_1 l2 = some (r1, r2)) :
    Calls Try.prog 41 #[.agg #[.int .i64 a0_0, .int .i64 a0_1], .agg #[.int .i64 a1_0, .int .i64 a1_1], .slice A2 l2.length c2] w fun e w' => e = .returned (.agg #[.int .i64 r1, .int .i64 r2]) ∧ Below w.heap.size w w' := by
  have hu27 := Try.underlying27
  have HR2 := Aside0.mk hr2
  have HC2 := Aside0.mk hc2
  clear hr2 hc2
  have HB := Aside0.mk (Below.refl w.heap.size w)
  have H : ((impl_RangeJoin.f k a0_0 a0_1 a1_0 a1_1).bind fun bt246 => ((impl_RangeOk.f a0_0 a0_1).bind fun t249 => (if t249 = true then ((impl_RangeOk.f a1_0 a1_1).bind fun t250 => (if t250 = true then ((impl_Range_empty.f a0_0 a0_1).bind fun t251 => (if t251 = true then (impl_RangeWiden.j0 k l2 true a0_0 a0_1 bt246.1 bt246.2) else ((impl_Range_empty.f a1_0 a1_1).bind fun t252 => (impl_RangeWiden.j0 k l2 t252 a0_0 a0_1 bt246.1 bt246.2)))) else (impl_RangeWiden.j0 k l2 true a0_0 a0_1 bt246.1 bt246.2))) else (impl_RangeWiden.j0 k l2 true a0_0 a0_1 bt246.1 bt246.2)))) = some (r1, r2) := h
  clear h
  replace H := Option.bind_eq_some_iff.mp H
  obtain ⟨⟨t246, t247⟩, A40, H⟩ := H
  replace H : ((impl_RangeOk.f a0_0 a0_1).bind fun t249 => (if t249 = true then ((impl_RangeOk.f a1_0 a1_1).bind fun t250 => (if t250 = true then ((impl_Range_empty.f a0_0 a0_1).bind fun t251 => (if t251 = true then (impl_RangeWiden.j0 k l2 true a0_0 a0_1 t246 t247) else ((impl_Range_empty.f a1_0 a1_1).bind fun t252 => (impl_RangeWiden.j0 k l2 t252 a0_0 a0_1 t246 t247)))) else (impl_RangeWiden.j0 k l2 true a0_0 a0_1 t246 t247))) else (impl_RangeWiden.j0 k l2 true a0_0 a0_1 t246 t247))) = some (r1, r2) := H
  have A4 := Aside0.mk A40
  clear A40
  have HC5 := Aside0.mk H
  clear H
  go_enter Try.func41, Try.ntmps41
  go_upto_region 2 with (first | ((with_reducible refine gate_dst (N := 3) rfl ?_); refine sqx 3 #[.int .i64 a0_0, .int .i64 a0_1] 27 ?_; intro gb243 hg w6 hbox hb; have BK243 := Aside0.mk (hbox); have GW243 := sqg HB hg; have GE243 := sqg HB hg; replace HB := sqs HB hb; clear hb hbox hg) | ((with_reducible refine gate_dst (N := 4) rfl ?_); refine sqx 4 #[.int .i64 a1_0, .int .i64 a1_1] 27 ?_; intro gb244 hg w7 hbox hb; have BK244 := Aside0.mk (hbox); have GW244 := sqg HB hg; have GE244 := sqg HB hg; have NB243_244 := sqn BK243 hg; have NB244_243 := sqm BK243 hg; replace BK243 := sqb BK243 hb; replace HB := sqs HB hb; clear hb hbox hg) | ((with_reducible refine gate_dst (N := 6) rfl ?_); refine sqx 6 #[.int .i64 0, .int .i64 0] 27 ?_; intro gb245 hg w8 hbox hb; have BK245 := Aside0.mk (hbox); have GW245 := sqg HB hg; have GE245 := sqg HB hg; have NB243_245 := sqn BK243 hg; have NB245_243 := sqm BK243 hg; have NB244_245 := sqn BK244 hg; have NB245_244 := sqm BK244 hg; replace BK243 := sqb BK243 hb; replace BK244 := sqb BK244 hb; replace HB := sqs HB hb; clear hb hbox hg; have hnb9 := NB243_244.out; have hnc9 := NB244_243.out; have hnb10 := NB243_245.out; have hnc10 := NB245_243.out; obtain ⟨hcz11_0, hcz11_1, hfz11_0, hfz11_1⟩ := sqc2 BK243; have hnb12 := NB244_245.out; have hnc12 := NB245_244.out; obtain ⟨hcz13_0, hcz13_1, hfz13_0, hfz13_1⟩ := sqc2 BK244) | ((with_reducible refine gate_callee (f := 46) rfl ?_); refine sqL (some 16) Try.func46 #[.agg #[.int .i64 a0_0, .int .i64 a0_1], .agg #[.int .i64 a1_0, .int .i64 a1_1]] ?_; (with_reducible refine (impl_RangeJoin.calls k a0_0 a0_1 a1_0 a1_1 t246 t247 _ A4.out).mono ?_); rintro e w14 ⟨rfl, hb⟩; refine ⟨_, rfl, ?_⟩; replace BK243 := sqb BK243 hb; replace BK244 := sqb BK244 hb; replace BK245 := sqb BK245 hb; replace HB := sqs HB hb; (try clear hb)) | ((with_reducible refine gate_dst (N := 7) rfl ?_); refine sqx 7 #[.int .i64 0, .int .i64 0] 27 ?_; intro gb248 hg w15 hbox hb; have BK248 := Aside0.mk (hbox); have GW248 := sqg HB hg; have GE248 := sqg HB hg; have NB243_248 := sqn BK243 hg; have NB248_243 := sqm BK243 hg; have NB244_248 := sqn BK244 hg; have NB248_244 := sqm BK244 hg; have NB245_248 := sqn BK245 hg; have NB248_245 := sqm BK245 hg; replace BK243 := sqb BK243 hb; replace BK244 := sqb BK244 hb; replace BK245 := sqb BK245 hb; replace HB := sqs HB hb; clear hb hbox hg; have hnb16 := NB248_243.out; have hnc16 := NB243_248.out; have hnb17 := NB248_244.out; have hnc17 := NB244_248.out; have hnb18 := NB248_245.out; have hnc18 := NB245_248.out; obtain ⟨hcz19_0, hcz19_1, hfz19_0, hfz19_1⟩ := sqc2 BK248))
  (try simp only [Act.put, List.setIfInBounds_toArray, List.set_cons_zero, List.set_cons_succ])
  go_cut [32] (fun v32 wc => ∃ (kq : Nat) (x32_4 : Bool), v32 = .bool x32_4 ∧ Aside0 (impl_RangeWiden.j0 kq l2 x32_4 a0_0 a0_1 t246 t247 = some (r1, r2)) ∧ Aside0 (kq ≤ k) ∧ Aside0 (wc.heap[gb243]? = some (.cells #[.int .i64 a0_0, .int .i64 a0_1] 27 (0, 0))) ∧ Aside0 (wc.heap[gb244]? = some (.cells #[.int .i64 a1_0, .int .i64 a1_1] 27 (0, 0))) ∧ Aside0 (wc.heap[gb245]? = some (.cells #[.int .i64 0, .int .i64 0] 27 (0, 0))) ∧ Aside0 (wc.heap[gb248]? = some (.cells #[.int .i64 t246, .int .i64 t247] 27 (0, 0))) ∧ Aside0 (Below w.heap.size w wc))
  case first =>
    have H := HC5.out
    clear HC5
    replace H := Option.bind_eq_some_iff.mp H
    obtain ⟨t249, A200, H⟩ := H
    replace H : (if t249 = true then ((impl_RangeOk.f a1_0 a1_1).bind fun t250 => (if t250 = true then ((impl_Range_empty.f a0_0 a0_1).bind fun t251 => (if t251 = true then (impl_RangeWiden.j0 k l2 true a0_0 a0_1 t246 t247) else ((impl_Range_empty.f a1_0 a1_1).bind fun t252 => (impl_RangeWiden.j0 k l2 t252 a0_0 a0_1 t246 t247)))) else (impl_RangeWiden.j0 k l2 true a0_0 a0_1 t246 t247))) else (impl_RangeWiden.j0 k l2 true a0_0 a0_1 t246 t247)) = some (r1, r2) := H
    have A20 := Aside0.mk A200
    clear A200
    by_cases c21 : t249 = true
    · subst c21
      have H1 : ((impl_RangeOk.f a1_0 a1_1).bind fun t250 => (if t250 = true then ((impl_Range_empty.f a0_0 a0_1).bind fun t251 => (if t251 = true then (impl_RangeWiden.j0 k l2 true a0_0 a0_1 t246 t247) else ((impl_Range_empty.f a1_0 a1_1).bind fun t252 => (impl_RangeWiden.j0 k l2 t252 a0_0 a0_1 t246 t247)))) else (impl_RangeWiden.j0 k l2 true a0_0 a0_1 t246 t247))) = some (r1, r2) := by rw [if_pos rfl] at H; exact H
      clear H
      have H := H1
      clear H1
      replace H := Option.bind_eq_some_iff.mp H
      obtain ⟨t250, A220, H⟩ := H
      replace H : (if t250 = true then ((impl_Range_empty.f a0_0 a0_1).bind fun t251 => (if t251 = true then (impl_RangeWiden.j0 k l2 true a0_0 a0_1 t246 t247) else ((impl_Range_empty.f a1_0 a1_1).bind fun t252 => (impl_RangeWiden.j0 k l2 t252 a0_0 a0_1 t246 t247)))) else (impl_RangeWiden.j0 k l2 true a0_0 a0_1 t246 t247)) = some (r1, r2) := H
      have A22 := Aside0.mk A220
      clear A220
      by_cases c23 : t250 = true
      · subst c23
        have H1 : ((impl_Range_empty.f a0_0 a0_1).bind fun t251 => (if t251 = true then (impl_RangeWiden.j0 k l2 true a0_0 a0_1 t246 t247) else ((impl_Range_empty.f a1_0 a1_1).bind fun t252 => (impl_RangeWiden.j0 k l2 t252 a0_0 a0_1 t246 t247)))) = some (r1, r2) := by rw [if_pos rfl] at H; exact H
        clear H
        have H := H1
        clear H1
        replace H := Option.bind_eq_some_iff.mp H
        obtain ⟨t251, A240, H⟩ := H
        replace H : (if t251 = true then (impl_RangeWiden.j0 k l2 true a0_0 a0_1 t246 t247) else ((impl_Range_empty.f a1_0 a1_1).bind fun t252 => (impl_RangeWiden.j0 k l2 t252 a0_0 a0_1 t246 t247))) = some (r1, r2) := H
        have A24 := Aside0.mk A240
        clear A240
        by_cases c25 : t251 = true
        · subst c25
          have H1 : (impl_RangeWiden.j0 k l2 true a0_0 a0_1 t246 t247) = some (r1, r2) := by rw [if_pos rfl] at H; exact H
          clear H
          have H := H1
          clear H1
          have H' := Aside0.mk H
          clear H
          have hnb26 := NB243_244.out
          have hnc26 := NB244_243.out
          have hnb27 := NB243_245.out
          have hnc27 := NB245_243.out
          have hnb28 := NB243_248.out
          have hnc28 := NB248_243.out
          obtain ⟨hcz29_0, hcz29_1, hfz29_0, hfz29_1⟩ := sqc2 BK243
          go_wp2_with (first | ((with_reducible refine gate_callee (f := 98) rfl ?_); refine sqL (some 18) Try.func98 #[.agg #[.int .i64 a0_0, .int .i64 a0_1]] ?_; (with_reducible refine (impl_RangeOk.calls a0_0 a0_1 true _ A20.out).mono ?_); rintro e w30 ⟨rfl, hb⟩; refine ⟨_, rfl, ?_⟩; have n0_ := Aside0.mk (blk_below (g := gb243) (o := .cells #[.int .i64 a0_0, .int .i64 a0_1] 27 (0, 0)) (by refine sqt ?_; refine blk_far ?_ NB243_248.out _; refine sqt ?_; refine blk_far ?_ NB243_248.out _; refine sqt ?_; exact BK243.out) hb); have n1_ := Aside0.mk (blk_below (g := gb244) (o := .cells #[.int .i64 a1_0, .int .i64 a1_1] 27 (0, 0)) (by refine sqt ?_; refine blk_far ?_ NB244_248.out _; refine sqt ?_; refine blk_far ?_ NB244_248.out _; refine sqt ?_; exact BK244.out) hb); have n2_ := Aside0.mk (blk_below (g := gb245) (o := .cells #[.int .i64 0, .int .i64 0] 27 (0, 0)) (by refine sqt ?_; refine blk_far ?_ NB245_248.out _; refine sqt ?_; refine blk_far ?_ NB245_248.out _; refine sqt ?_; exact BK245.out) hb); have n3_ := Aside0.mk (blk_below (g := gb248) (o := .cells #[.int .i64 t246, .int .i64 t247] 27 (0, 0)) (by refine sqt ?_; refine blk_put (cs := #[.int .i64 t246, .int .i64 0]) ?_ 1 _ rfl; refine sqt ?_; refine blk_put (cs := #[.int .i64 0, .int .i64 0]) ?_ 0 _ rfl; refine sqt ?_; exact BK248.out) hb); have n4_ := sqs HB hb; clear BK243; clear BK244; clear BK245; clear BK248; clear HB; have BK243 := n0_; have BK244 := n1_; have BK245 := n2_; have BK248 := n3_; have HB := n4_; clear n0_ n1_ n2_ n3_ n4_; (try clear hb); have hnb31 := NB244_245.out; have hnc31 := NB245_244.out; have hnb32 := NB244_248.out; have hnc32 := NB248_244.out; obtain ⟨hcz33_0, hcz33_1, hfz33_0, hfz33_1⟩ := sqc2 BK244) | (go_at_call 98; (with_reducible refine (impl_RangeOk.calls a1_0 a1_1 true _ A22.out).mono ?_); rintro e w34 ⟨rfl, hb⟩; replace BK243 := sqb BK243 hb; replace BK244 := sqb BK244 hb; replace BK245 := sqb BK245 hb; replace BK248 := sqb BK248 hb; replace HB := sqs HB hb; (try clear hb); obtain ⟨hcz35_0, hcz35_1, hfz35_0, hfz35_1⟩ := sqc2 BK243) | (go_at_call 99; (with_reducible refine (impl_Range_empty.calls a0_0 a0_1 true _ A24.out).mono ?_); rintro e w36 ⟨rfl, hb⟩; replace BK243 := sqb BK243 hb; replace BK244 := sqb BK244 hb; replace BK245 := sqb BK245 hb; replace BK248 := sqb BK248 hb; replace HB := sqs HB hb; (try clear hb)))
          go_meet
          case rel => exact ⟨_, (true), (by first | rfl | (simp; done) | (simp [*]; done)), H', ⟨by first | omega | exact Nat.le_refl _⟩, sqk BK243, sqk BK244, sqk BK245, sqk BK248, sqh HB⟩
        · replace c25 := Bool.eq_false_iff.mpr c25
          subst c25
          have H1 : ((impl_Range_empty.f a1_0 a1_1).bind fun t252 => (impl_RangeWiden.j0 k l2 t252 a0_0 a0_1 t246 t247)) = some (r1, r2) := by rw [if_neg (show ¬ (false = true) by decide)] at H; exact H
          clear H
          have H := H1
          clear H1
          replace H := Option.bind_eq_some_iff.mp H
          obtain ⟨t252, A370, H⟩ := H
          replace H : (impl_RangeWiden.j0 k l2 t252 a0_0 a0_1 t246 t247) = some (r1, r2) := H
          have A37 := Aside0.mk A370
          clear A370
          have H' := Aside0.mk H
          clear H
          have hnb38 := NB243_244.out
          have hnc38 := NB244_243.out
          have hnb39 := NB243_245.out
          have hnc39 := NB245_243.out
          have hnb40 := NB243_248.out
          have hnc40 := NB248_243.out
          obtain ⟨hcz41_0, hcz41_1, hfz41_0, hfz41_1⟩ := sqc2 BK243
          go_wp2_with (first | ((with_reducible refine gate_callee (f := 98) rfl ?_); refine sqL (some 18) Try.func98 #[.agg #[.int .i64 a0_0, .int .i64 a0_1]] ?_; (with_reducible refine (impl_RangeOk.calls a0_0 a0_1 true _ A20.out).mono ?_); rintro e w42 ⟨rfl, hb⟩; refine ⟨_, rfl, ?_⟩; have n0_ := Aside0.mk (blk_below (g := gb243) (o := .cells #[.int .i64 a0_0, .int .i64 a0_1] 27 (0, 0)) (by refine sqt ?_; refine blk_far ?_ NB243_248.out _; refine sqt ?_; refine blk_far ?_ NB243_248.out _; refine sqt ?_; exact BK243.out) hb); have n1_ := Aside0.mk (blk_below (g := gb244) (o := .cells #[.int .i64 a1_0, .int .i64 a1_1] 27 (0, 0)) (by refine sqt ?_; refine blk_far ?_ NB244_248.out _; refine sqt ?_; refine blk_far ?_ NB244_248.out _; refine sqt ?_; exact BK244.out) hb); have n2_ := Aside0.mk (blk_below (g := gb245) (o := .cells #[.int .i64 0, .int .i64 0] 27 (0, 0)) (by refine sqt ?_; refine blk_far ?_ NB245_248.out _; refine sqt ?_; refine blk_far ?_ NB245_248.out _; refine sqt ?_; exact BK245.out) hb); have n3_ := Aside0.mk (blk_below (g := gb248) (o := .cells #[.int .i64 t246, .int .i64 t247] 27 (0, 0)) (by refine sqt ?_; refine blk_put (cs := #[.int .i64 t246, .int .i64 0]) ?_ 1 _ rfl; refine sqt ?_; refine blk_put (cs := #[.int .i64 0, .int .i64 0]) ?_ 0 _ rfl; refine sqt ?_; exact BK248.out) hb); have n4_ := sqs HB hb; clear BK243; clear BK244; clear BK245; clear BK248; clear HB; have BK243 := n0_; have BK244 := n1_; have BK245 := n2_; have BK248 := n3_; have HB := n4_; clear n0_ n1_ n2_ n3_ n4_; (try clear hb); have hnb43 := NB244_245.out; have hnc43 := NB245_244.out; have hnb44 := NB244_248.out; have hnc44 := NB248_244.out; obtain ⟨hcz45_0, hcz45_1, hfz45_0, hfz45_1⟩ := sqc2 BK244) | (go_at_call 98; (with_reducible refine (impl_RangeOk.calls a1_0 a1_1 true _ A22.out).mono ?_); rintro e w46 ⟨rfl, hb⟩; replace BK243 := sqb BK243 hb; replace BK244 := sqb BK244 hb; replace BK245 := sqb BK245 hb; replace BK248 := sqb BK248 hb; replace HB := sqs HB hb; (try clear hb); obtain ⟨hcz47_0, hcz47_1, hfz47_0, hfz47_1⟩ := sqc2 BK243) | (go_at_call 99; (with_reducible refine (impl_Range_empty.calls a0_0 a0_1 false _ A24.out).mono ?_); rintro e w48 ⟨rfl, hb⟩; replace BK243 := sqb BK243 hb; replace BK244 := sqb BK244 hb; replace BK245 := sqb BK245 hb; replace BK248 := sqb BK248 hb; replace HB := sqs HB hb; (try clear hb); obtain ⟨hcz49_0, hcz49_1, hfz49_0, hfz49_1⟩ := sqc2 BK244) | (go_at_call 99; (with_reducible refine (impl_Range_empty.calls a1_0 a1_1 t252 _ A37.out).mono ?_); rintro e w50 ⟨rfl, hb⟩; replace BK243 := sqb BK243 hb; replace BK244 := sqb BK244 hb; replace BK245 := sqb BK245 hb; replace BK248 := sqb BK248 hb; replace HB := sqs HB hb; (try clear hb)))
          go_meet
          case rel => exact ⟨_, (t252), (by first | rfl | (simp; done) | (simp [*]; done)), H', ⟨by first | omega | exact Nat.le_refl _⟩, sqk BK243, sqk BK244, sqk BK245, sqk BK248, sqh HB⟩
      · replace c23 := Bool.eq_false_iff.mpr c23
        subst c23
        have H1 : (impl_RangeWiden.j0 k l2 true a0_0 a0_1 t246 t247) = some (r1, r2) := by rw [if_neg (show ¬ (false = true) by decide)] at H; exact H
        clear H
        have H := H1
        clear H1
        have H' := Aside0.mk H
        clear H
        have hnb51 := NB243_244.out
        have hnc51 := NB244_243.out
        have hnb52 := NB243_245.out
        have hnc52 := NB245_243.out
        have hnb53 := NB243_248.out
        have hnc53 := NB248_243.out
        obtain ⟨hcz54_0, hcz54_1, hfz54_0, hfz54_1⟩ := sqc2 BK243
        go_wp2_with (first | ((with_reducible refine gate_callee (f := 98) rfl ?_); refine sqL (some 18) Try.func98 #[.agg #[.int .i64 a0_0, .int .i64 a0_1]] ?_; (with_reducible refine (impl_RangeOk.calls a0_0 a0_1 true _ A20.out).mono ?_); rintro e w55 ⟨rfl, hb⟩; refine ⟨_, rfl, ?_⟩; have n0_ := Aside0.mk (blk_below (g := gb243) (o := .cells #[.int .i64 a0_0, .int .i64 a0_1] 27 (0, 0)) (by refine sqt ?_; refine blk_far ?_ NB243_248.out _; refine sqt ?_; refine blk_far ?_ NB243_248.out _; refine sqt ?_; exact BK243.out) hb); have n1_ := Aside0.mk (blk_below (g := gb244) (o := .cells #[.int .i64 a1_0, .int .i64 a1_1] 27 (0, 0)) (by refine sqt ?_; refine blk_far ?_ NB244_248.out _; refine sqt ?_; refine blk_far ?_ NB244_248.out _; refine sqt ?_; exact BK244.out) hb); have n2_ := Aside0.mk (blk_below (g := gb245) (o := .cells #[.int .i64 0, .int .i64 0] 27 (0, 0)) (by refine sqt ?_; refine blk_far ?_ NB245_248.out _; refine sqt ?_; refine blk_far ?_ NB245_248.out _; refine sqt ?_; exact BK245.out) hb); have n3_ := Aside0.mk (blk_below (g := gb248) (o := .cells #[.int .i64 t246, .int .i64 t247] 27 (0, 0)) (by refine sqt ?_; refine blk_put (cs := #[.int .i64 t246, .int .i64 0]) ?_ 1 _ rfl; refine sqt ?_; refine blk_put (cs := #[.int .i64 0, .int .i64 0]) ?_ 0 _ rfl; refine sqt ?_; exact BK248.out) hb); have n4_ := sqs HB hb; clear BK243; clear BK244; clear BK245; clear BK248; clear HB; have BK243 := n0_; have BK244 := n1_; have BK245 := n2_; have BK248 := n3_; have HB := n4_; clear n0_ n1_ n2_ n3_ n4_; (try clear hb); have hnb56 := NB244_245.out; have hnc56 := NB245_244.out; have hnb57 := NB244_248.out; have hnc57 := NB248_244.out; obtain ⟨hcz58_0, hcz58_1, hfz58_0, hfz58_1⟩ := sqc2 BK244) | (go_at_call 98; (with_reducible refine (impl_RangeOk.calls a1_0 a1_1 false _ A22.out).mono ?_); rintro e w59 ⟨rfl, hb⟩; replace BK243 := sqb BK243 hb; replace BK244 := sqb BK244 hb; replace BK245 := sqb BK245 hb; replace BK248 := sqb BK248 hb; replace HB := sqs HB hb; (try clear hb)))
        go_meet
        case rel => exact ⟨_, (true), (by first | rfl | (simp; done) | (simp [*]; done)), H', ⟨by first | omega | exact Nat.le_refl _⟩, sqk BK243, sqk BK244, sqk BK245, sqk BK248, sqh HB⟩
    · replace c21 := Bool.eq_false_iff.mpr c21
      subst c21
      have H1 : (impl_RangeWiden.j0 k l2 true a0_0 a0_1 t246 t247) = some (r1, r2) := by rw [if_neg (show ¬ (false = true) by decide)] at H; exact H
      clear H
      have H := H1
      clear H1
      have H' := Aside0.mk H
      clear H
      have hnb60 := NB243_244.out
      have hnc60 := NB244_243.out
      have hnb61 := NB243_245.out
      have hnc61 := NB245_243.out
      have hnb62 := NB243_248.out
      have hnc62 := NB248_243.out
      obtain ⟨hcz63_0, hcz63_1, hfz63_0, hfz63_1⟩ := sqc2 BK243
      go_wp2_with (first | ((with_reducible refine gate_callee (f := 98) rfl ?_); refine sqL (some 18) Try.func98 #[.agg #[.int .i64 a0_0, .int .i64 a0_1]] ?_; (with_reducible refine (impl_RangeOk.calls a0_0 a0_1 false _ A20.out).mono ?_); rintro e w64 ⟨rfl, hb⟩; refine ⟨_, rfl, ?_⟩; have n0_ := Aside0.mk (blk_below (g := gb243) (o := .cells #[.int .i64 a0_0, .int .i64 a0_1] 27 (0, 0)) (by refine sqt ?_; refine blk_far ?_ NB243_248.out _; refine sqt ?_; refine blk_far ?_ NB243_248.out _; refine sqt ?_; exact BK243.out) hb); have n1_ := Aside0.mk (blk_below (g := gb244) (o := .cells #[.int .i64 a1_0, .int .i64 a1_1] 27 (0, 0)) (by refine sqt ?_; refine blk_far ?_ NB244_248.out _; refine sqt ?_; refine blk_far ?_ NB244_248.out _; refine sqt ?_; exact BK244.out) hb); have n2_ := Aside0.mk (blk_below (g := gb245) (o := .cells #[.int .i64 0, .int .i64 0] 27 (0, 0)) (by refine sqt ?_; refine blk_far ?_ NB245_248.out _; refine sqt ?_; refine blk_far ?_ NB245_248.out _; refine sqt ?_; exact BK245.out) hb); have n3_ := Aside0.mk (blk_below (g := gb248) (o := .cells #[.int .i64 t246, .int .i64 t247] 27 (0, 0)) (by refine sqt ?_; refine blk_put (cs := #[.int .i64 t246, .int .i64 0]) ?_ 1 _ rfl; refine sqt ?_; refine blk_put (cs := #[.int .i64 0, .int .i64 0]) ?_ 0 _ rfl; refine sqt ?_; exact BK248.out) hb); have n4_ := sqs HB hb; clear BK243; clear BK244; clear BK245; clear BK248; clear HB; have BK243 := n0_; have BK244 := n1_; have BK245 := n2_; have BK248 := n3_; have HB := n4_; clear n0_ n1_ n2_ n3_ n4_; (try clear hb)))
      go_meet
      case rel => exact ⟨_, (true), (by first | rfl | (simp; done) | (simp [*]; done)), H', ⟨by first | omega | exact Nat.le_refl _⟩, sqk BK243, sqk BK244, sqk BK245, sqk BK248, sqh HB⟩
  case rest =>
    clear HC5
    try clear c2
    try clear hcz11_0
    try clear hcz11_1
    try clear hcz13_0
    try clear hcz13_1
    try clear hcz19_0
    try clear hcz19_1
    try clear hfz11_0
    try clear hfz11_1
    try clear hfz13_0
    try clear hfz13_1
    try clear hfz19_0
    try clear hfz19_1
    obtain ⟨kq, x32_4, rfl, HA, HJ4, BK243, BK244, BK245, BK248, HB⟩ := hcut
    cases kq with
    | zero => exact absurd HA.out (by simp [impl_RangeWiden.j0])
    | succ kj4 =>
      have H := HA.out
      clear HA
      simp only [impl_RangeWiden.j0] at H
      by_cases c65 : x32_4 = true
      · subst c65
        have H1 : (some (t246, t247)) = some (r1, r2) := by rw [if_pos rfl] at H; exact H
        clear H
        have H := H1
        clear H1
        simp only [Option.some.injEq, Prod.mk.injEq] at H
        obtain ⟨rfl, rfl⟩ := H
        have hnb66 := NB248_243.out
        have hnc66 := NB243_248.out
        have hnb67 := NB248_244.out
        have hnc67 := NB244_248.out
        have hnb68 := NB248_245.out
        have hnc68 := NB245_248.out
        obtain ⟨hcz69_0, hcz69_1, hfz69_0, hfz69_1⟩ := sqc2 BK248
        have hnb70 := NB245_243.out
        have hnc70 := NB243_245.out
        have hnb71 := NB245_244.out
        have hnc71 := NB244_245.out
        obtain ⟨hcz72_0, hcz72_1, hfz72_0, hfz72_1⟩ := sqc2 BK245
        go_wp2
        refine bodyPost_ret (results_cell_row rfl _ _ gb245 27 #[.int .i64 t246, .int .i64 t247] (0, 0) _ rfl (by refine sqt ?_; refine blk_put (cs := #[.int .i64 t246, .int .i64 0]) ?_ 1 _ rfl; refine sqt ?_; refine blk_put (cs := #[.int .i64 0, .int .i64 0]) ?_ 0 _ rfl; refine sqt ?_; exact BK245.out) Try.underlying27 rfl (by kernel_rfl)) rfl ?_
        exact sqe HB
      · replace c65 := Bool.eq_false_iff.mpr c65
        subst c65
        have H1 : (if t246 < a0_0 then (impl_RangeWiden.l0 kj4 l2 (-2147483648) l2 (l2.length : Int) 0 a0_0 a0_1 t246 t247) else (impl_RangeWiden.j2 kj4 l2 a0_0 a0_1 t246 t247)) = some (r1, r2) := by rw [if_neg (show ¬ (false = true) by decide)] at H; exact H
        clear H
        have H := H1
        clear H1
        have HC73 := Aside0.mk H
        clear H
        have hnb74 := NB248_243.out
        have hnc74 := NB243_248.out
        have hnb75 := NB248_244.out
        have hnc75 := NB244_248.out
        have hnb76 := NB248_245.out
        have hnc76 := NB245_248.out
        obtain ⟨hcz77_0, hcz77_1, hfz77_0, hfz77_1⟩ := sqc2 BK248
        have hnb78 := NB243_244.out
        have hnc78 := NB244_243.out
        have hnb79 := NB243_245.out
        have hnc79 := NB245_243.out
        obtain ⟨hcz80_0, hcz80_1, hfz80_0, hfz80_1⟩ := sqc2 BK243
        go_upto_if 38 with (fail)
        go_cut [] (fun wc => ∃ (kq : Nat) (x249000_72 : Int), Aside0 (impl_RangeWiden.j2 kq l2 a0_0 a0_1 x249000_72 t247 = some (r1, r2)) ∧ Aside0 (kq ≤ kj4) ∧ Aside0 (wc.heap[gb243]? = some (.cells #[.int .i64 a0_0, .int .i64 a0_1] 27 (0, 0))) ∧ Aside0 (wc.heap[gb244]? = some (.cells #[.int .i64 a1_0, .int .i64 a1_1] 27 (0, 0))) ∧ Aside0 (wc.heap[gb245]? = some (.cells #[.int .i64 0, .int .i64 0] 27 (0, 0))) ∧ Aside0 (wc.heap[gb248]? = some (.cells #[.int .i64 x249000_72, .int .i64 t247] 27 (0, 0))) ∧ Aside0 (Below w.heap.size w wc))
        case first =>
          have H := HC73.out
          clear HC73
          by_cases c81 : t246 < a0_0
          · rw [if_pos c81] at H
            have c81b0 : decide (t246 < a0_0) = true := decide_eq_true c81
            clear c81
            (first | rw [c81b0] | (simp only [i64_w, i32_w]; rw [c81b0]) | skip)
            have H' := Aside0.mk H
            clear H
            go_wp2
            go_loopg [8, 41] kj4 (fun kq v8 v41 w' => ∃ (x8_2 : Int) (x41_2 : Int), v8 = .int .i64 x8_2 ∧ v41 = .int .i64 x41_2 ∧ Aside0 (impl_RangeWiden.l0 kq l2 x8_2 l2 (l2.length : Int) x41_2 a0_0 a0_1 t246 t247 = some (r1, r2)) ∧ Aside0 (kq ≤ kj4) ∧ Aside0 (w'.heap[gb243]? = some (.cells #[.int .i64 a0_0, .int .i64 a0_1] 27 (0, 0))) ∧ Aside0 (w'.heap[gb244]? = some (.cells #[.int .i64 a1_0, .int .i64 a1_1] 27 (0, 0))) ∧ Aside0 (w'.heap[gb245]? = some (.cells #[.int .i64 0, .int .i64 0] 27 (0, 0))) ∧ Aside0 (w'.heap[gb248]? = some (.cells #[.int .i64 t246, .int .i64 t247] 27 (0, 0))) ∧ Aside0 (Below w.heap.size w w'))
            case atStart => exact ⟨((-2147483648)), (0), (by first | rfl | (simp; done) | (simp [*]; done)), (by first | rfl | (simp; done) | (simp [*]; done)), H', ⟨Nat.le_refl _⟩, sqk BK243, sqk BK244, sqk BK245, sqk BK248, sqh HB⟩
            case round =>
              clear H'
              try clear c1
              try clear c2
              try clear p2
              try clear c3
              try clear c4
              try clear c5
              try clear c6
              try clear c7
              try clear c8
              try clear c9
              try clear c10
              try clear c12
              try clear c16
              try clear c17
              try clear c18
              try clear c21
              try clear c23
              try clear c25
              try clear c26
              try clear c27
              try clear c28
              try clear c31
              try clear c32
              try clear c38
              try clear c39
              try clear c40
              try clear c41
              try clear c43
              try clear c44
              try clear c46
              try clear c51
              try clear c52
              try clear c53
              try clear c56
              try clear c57
              try clear c60
              try clear c61
              try clear c62
              try clear c65
              try clear c66
              try clear c67
              try clear c68
              try clear c70
              try clear c71
              try clear c74
              try clear c75
              try clear c76
              try clear c78
              try clear c79
              try clear c81
              try clear c81b0
              try clear hcz11_0
              try clear hcz11_1
              try clear hcz13_0
              try clear hcz13_1
              try clear hcz19_0
              try clear hcz19_1
              try clear hcz29_0
              try clear hcz29_1
              try clear hcz33_0
              try clear hcz33_1
              try clear hcz35_0
              try clear hcz35_1
              try clear hcz41_0
              try clear hcz41_1
              try clear hcz45_0
              try clear hcz45_1
              try clear hcz47_0
              try clear hcz47_1
              try clear hcz49_0
              try clear hcz49_1
              try clear hcz54_0
              try clear hcz54_1
              try clear hcz58_0
              try clear hcz58_1
              try clear hcz63_0
              try clear hcz63_1
              try clear hcz69_0
              try clear hcz69_1
              try clear hcz72_0
              try clear hcz72_1
              try clear hcz77_0
              try clear hcz77_1
              try clear hcz80_0
              try clear hcz80_1
              try clear hfz11_0
              try clear hfz11_1
              try clear hfz13_0
              try clear hfz13_1
              try clear hfz19_0
              try clear hfz19_1
              try clear hfz29_0
              try clear hfz29_1
              try clear hfz33_0
              try clear hfz33_1
              try clear hfz35_0
              try clear hfz35_1
              try clear hfz41_0
              try clear hfz41_1
              try clear hfz45_0
              try clear hfz45_1
              try clear hfz47_0
              try clear hfz47_1
              try clear hfz49_0
              try clear hfz49_1
              try clear hfz54_0
              try clear hfz54_1
              try clear hfz58_0
              try clear hfz58_1
              try clear hfz63_0
              try clear hfz63_1
              try clear hfz69_0
              try clear hfz69_1
              try clear hfz72_0
              try clear hfz72_1
              try clear hfz77_0
              try clear hfz77_1
              try clear hfz80_0
              try clear hfz80_1
              try clear p2
              obtain ⟨x8_2, x41_2, rfl, rfl, HA, HK2, BK243, BK244, BK245, BK248, HB⟩ := hrel
              cases gk with
              | zero => exact absurd HA.out (by simp [impl_RangeWiden.l0])
              | succ k2 =>
                have H := HA.out
                clear HA
                simp only [impl_RangeWiden.l0] at H
                by_cases c82 : x41_2 < (l2.length : Int)
                · rw [if_pos c82] at H
                  have c82b0 : decide (x41_2 < (l2.length : Int)) = true := decide_eq_true c82
                  clear c82
                  by_cases c83 : 0 ≤ x41_2
                  · rw [if_pos c83] at H
                    have c83b0 : decide (0 ≤ x41_2) = true := decide_eq_true c83
                    clear c83
                    by_cases c84 : x41_2 < (l2.length : Int)
                    · rw [if_pos c84] at H
                      have c84b0 : decide (x41_2 < (l2.length : Int)) = true := decide_eq_true c84
                      clear c84
                      replace H := Option.bind_eq_some_iff.mp H
                      obtain ⟨t254, A850, H⟩ := H
                      replace H : (if t254 = true then (if (rd l2 x41_2) ≤ t246 then (impl_RangeWiden.l0 k2 l2 (mx x8_2 (rd l2 x41_2)) l2 (l2.length : Int) (wrap64 (x41_2 + 1)) a0_0 a0_1 t246 t247) else (impl_RangeWiden.l0 k2 l2 x8_2 l2 (l2.length : Int) (wrap64 (x41_2 + 1)) a0_0 a0_1 t246 t247)) else (impl_RangeWiden.l0 k2 l2 x8_2 l2 (l2.length : Int) (wrap64 (x41_2 + 1)) a0_0 a0_1 t246 t247)) = some (r1, r2) := H
                      have A85 := Aside0.mk A850
                      clear A850
                      by_cases c86 : t254 = true
                      · subst c86
                        have H1 : (if (rd l2 x41_2) ≤ t246 then (impl_RangeWiden.l0 k2 l2 (mx x8_2 (rd l2 x41_2)) l2 (l2.length : Int) (wrap64 (x41_2 + 1)) a0_0 a0_1 t246 t247) else (impl_RangeWiden.l0 k2 l2 x8_2 l2 (l2.length : Int) (wrap64 (x41_2 + 1)) a0_0 a0_1 t246 t247)) = some (r1, r2) := by rw [if_pos rfl] at H; exact H
                        clear H
                        have H := H1
                        clear H1
                        by_cases c87 : (rd l2 x41_2) ≤ t246
                        · rw [if_pos c87] at H
                          have c87b0 : decide ((rd l2 x41_2) ≤ t246) = true := decide_eq_true c87
                          clear c87
                          obtain ⟨ji88, hji88⟩ : ∃ j_ : Int, (mx x8_2 (rd l2 x41_2)) = j_ := ⟨_, rfl⟩
                          replace H : (impl_RangeWiden.l0 k2 l2 ji88 l2 (l2.length : Int) (wrap64 (x41_2 + 1)) a0_0 a0_1 t246 t247) = some (r1, r2) := by first | (rw [hji88] at H; exact H) | (simp only [hji88] at H ⊢; exact H)
                          (try rw [hji88] at A85)
                          have hji88_ : (if x8_2 < (rd l2 x41_2) then (rd l2 x41_2) else x8_2) = ji88 := hji88
                          have H' := Aside0.mk H
                          clear H
                          have p253 : 0 ≤ (x41_2 : Int) := of_decide_eq_true (by first | (with_reducible assumption) | assumption)
                          have q253 : x41_2 < (l2.length : Int) := of_decide_eq_true (by first | (with_reducible assumption) | assumption)
                          obtain ⟨ad253, e253, hx253_0⟩ := Kd.at_int HR2.out x41_2 p253 q253
                          cases e253
                          replace hx253_0 := (HB.out.cell (World.block_lt_of_cell? w _ hx253_0)).trans hx253_0
                          replace p253 := eq_true p253
                          replace q253 := eq_true q253
                          go_wp2_with (first | ((with_reducible refine gate_callee (f := 92) rfl ?_); refine sqL (some 46) Try.func92 #[.int .i64 (rd l2 x41_2)] ?_; (with_reducible refine (impl_NumOk.calls (rd l2 x41_2) true _ A85.out).mono ?_); rintro e w' ⟨rfl, ⟨nd, rfl⟩⟩; refine ⟨_, rfl, ?_⟩; have hnb89 := NB248_243.out; have hnc89 := NB243_248.out; have hnb90 := NB248_244.out; have hnc90 := NB244_248.out; have hnb91 := NB248_245.out; have hnc91 := NB245_248.out; obtain ⟨hcz92_0, hcz92_1, hfz92_0, hfz92_1⟩ := sqc2 BK248))
                          go_roundg k2
                          case measure => have := HJ4.out; have := HK2.out; omega
                          case rel => exact ⟨(ji88), (wrap64 (x41_2 + 1)), (by first | rfl | (simp; done) | (simp only [← hji88] <;> (first | rfl | simp)) | (simp [*]; done)), (by first | rfl | (simp; done) | (simp [*]; done)), H', ⟨by have := HJ4.out; have := HK2.out; omega⟩, sqk BK243, sqk BK244, sqk BK245, sqk BK248, sqh HB⟩
                        · rw [if_neg c87] at H
                          have c87b0 : decide ((rd l2 x41_2) ≤ t246) = false := decide_eq_false c87
                          clear c87
                          have H' := Aside0.mk H
                          clear H
                          have p253 : 0 ≤ (x41_2 : Int) := of_decide_eq_true (by first | (with_reducible assumption) | assumption)
                          have q253 : x41_2 < (l2.length : Int) := of_decide_eq_true (by first | (with_reducible assumption) | assumption)
                          obtain ⟨ad253, e253, hx253_0⟩ := Kd.at_int HR2.out x41_2 p253 q253
                          cases e253
                          replace hx253_0 := (HB.out.cell (World.block_lt_of_cell? w _ hx253_0)).trans hx253_0
                          replace p253 := eq_true p253
                          replace q253 := eq_true q253
                          go_wp2_with (first | ((with_reducible refine gate_callee (f := 92) rfl ?_); refine sqL (some 46) Try.func92 #[.int .i64 (rd l2 x41_2)] ?_; (with_reducible refine (impl_NumOk.calls (rd l2 x41_2) true _ A85.out).mono ?_); rintro e w' ⟨rfl, ⟨nd, rfl⟩⟩; refine ⟨_, rfl, ?_⟩; have hnb93 := NB248_243.out; have hnc93 := NB243_248.out; have hnb94 := NB248_244.out; have hnc94 := NB244_248.out; have hnb95 := NB248_245.out; have hnc95 := NB245_248.out; obtain ⟨hcz96_0, hcz96_1, hfz96_0, hfz96_1⟩ := sqc2 BK248))
                          go_roundg k2
                          case measure => have := HJ4.out; have := HK2.out; omega
                          case rel => exact ⟨(x8_2), (wrap64 (x41_2 + 1)), (by first | rfl | (simp; done) | (simp [*]; done)), (by first | rfl | (simp; done) | (simp [*]; done)), H', ⟨by have := HJ4.out; have := HK2.out; omega⟩, sqk BK243, sqk BK244, sqk BK245, sqk BK248, sqh HB⟩
                      · replace c86 := Bool.eq_false_iff.mpr c86
                        subst c86
                        have H1 : (impl_RangeWiden.l0 k2 l2 x8_2 l2 (l2.length : Int) (wrap64 (x41_2 + 1)) a0_0 a0_1 t246 t247) = some (r1, r2) := by rw [if_neg (show ¬ (false = true) by decide)] at H; exact H
                        clear H
                        have H := H1
                        clear H1
                        have H' := Aside0.mk H
                        clear H
                        have p253 : 0 ≤ (x41_2 : Int) := of_decide_eq_true (by first | (with_reducible assumption) | assumption)
                        have q253 : x41_2 < (l2.length : Int) := of_decide_eq_true (by first | (with_reducible assumption) | assumption)
                        obtain ⟨ad253, e253, hx253_0⟩ := Kd.at_int HR2.out x41_2 p253 q253
                        cases e253
                        replace hx253_0 := (HB.out.cell (World.block_lt_of_cell? w _ hx253_0)).trans hx253_0
                        replace p253 := eq_true p253
                        replace q253 := eq_true q253
                        go_wp2_with (first | ((with_reducible refine gate_callee (f := 92) rfl ?_); refine sqL (some 46) Try.func92 #[.int .i64 (rd l2 x41_2)] ?_; (with_reducible refine (impl_NumOk.calls (rd l2 x41_2) false _ A85.out).mono ?_); rintro e w' ⟨rfl, ⟨nd, rfl⟩⟩; refine ⟨_, rfl, ?_⟩))
                        go_roundg k2
                        case measure => have := HJ4.out; have := HK2.out; omega
                        case rel => exact ⟨(x8_2), (wrap64 (x41_2 + 1)), (by first | rfl | (simp; done) | (simp [*]; done)), (by first | rfl | (simp; done) | (simp [*]; done)), H', ⟨by have := HJ4.out; have := HK2.out; omega⟩, sqk BK243, sqk BK244, sqk BK245, sqk BK248, sqh HB⟩
                    · rw [if_neg c84] at H
                      exact absurd H (by simp)
                  · rw [if_neg c83] at H
                    exact absurd H (by simp)
                · rw [if_neg c82] at H
                  have c82b0 : decide (x41_2 < (l2.length : Int)) = false := decide_eq_false c82
                  clear c82
                  have H' := Aside0.mk H
                  clear H
                  have hnb97 := NB248_243.out
                  have hnc97 := NB243_248.out
                  have hnb98 := NB248_244.out
                  have hnc98 := NB244_248.out
                  have hnb99 := NB248_245.out
                  have hnc99 := NB245_248.out
                  obtain ⟨hcz100_0, hcz100_1, hfz100_0, hfz100_1⟩ := sqc2 BK248
                  go_wp2
                  go_meet
                  case rel => exact ⟨_, (x8_2), H', ⟨by have := HJ4.out; have := HK2.out; first | omega | exact Nat.le_refl _⟩, ⟨by refine sqt ?_; refine blk_far ?_ NB243_248.out _; refine sqt ?_; exact BK243.out⟩, ⟨by refine sqt ?_; refine blk_far ?_ NB244_248.out _; refine sqt ?_; exact BK244.out⟩, ⟨by refine sqt ?_; refine blk_far ?_ NB245_248.out _; refine sqt ?_; exact BK245.out⟩, ⟨by refine sqt ?_; refine blk_put (cs := #[.int .i64 t246, .int .i64 t247]) ?_ 0 _ rfl; refine sqt ?_; exact BK248.out⟩, sqh HB⟩
          · rw [if_neg c81] at H
            have c81b0 : decide (t246 < a0_0) = false := decide_eq_false c81
            clear c81
            (first | rw [c81b0] | (simp only [i64_w, i32_w]; rw [c81b0]) | skip)
            have H' := Aside0.mk H
            clear H
            go_wp2
            go_meet
            case rel => exact ⟨_, (t246), H', ⟨by have := HJ4.out; first | omega | exact Nat.le_refl _⟩, sqk BK243, sqk BK244, sqk BK245, sqk BK248, sqh HB⟩
        case rest =>
          clear HC73
          try clear c2
          try clear c21
          try clear c23
          try clear c25
          try clear c65
          try clear hcz11_0
          try clear hcz11_1
          try clear hcz13_0
          try clear hcz13_1
          try clear hcz19_0
          try clear hcz19_1
          try clear hcz29_0
          try clear hcz29_1
          try clear hcz33_0
          try clear hcz33_1
          try clear hcz35_0
          try clear hcz35_1
          try clear hcz41_0
          try clear hcz41_1
          try clear hcz45_0
          try clear hcz45_1
          try clear hcz47_0
          try clear hcz47_1
          try clear hcz49_0
          try clear hcz49_1
          try clear hcz54_0
          try clear hcz54_1
          try clear hcz58_0
          try clear hcz58_1
          try clear hcz63_0
          try clear hcz63_1
          try clear hcz69_0
          try clear hcz69_1
          try clear hcz72_0
          try clear hcz72_1
          try clear hcz77_0
          try clear hcz77_1
          try clear hcz80_0
          try clear hcz80_1
          try clear hfz11_0
          try clear hfz11_1
          try clear hfz13_0
          try clear hfz13_1
          try clear hfz19_0
          try clear hfz19_1
          try clear hfz29_0
          try clear hfz29_1
          try clear hfz33_0
          try clear hfz33_1
          try clear hfz35_0
          try clear hfz35_1
          try clear hfz41_0
          try clear hfz41_1
          try clear hfz45_0
          try clear hfz45_1
          try clear hfz47_0
          try clear hfz47_1
          try clear hfz49_0
          try clear hfz49_1
          try clear hfz54_0
          try clear hfz54_1
          try clear hfz58_0
          try clear hfz58_1
          try clear hfz63_0
          try clear hfz63_1
          try clear hfz69_0
          try clear hfz69_1
          try clear hfz72_0
          try clear hfz72_1
          try clear hfz77_0
          try clear hfz77_1
          try clear hfz80_0
          try clear hfz80_1
          obtain ⟨kq, x249000_72, HA, HJ72, BK243, BK244, BK245, BK248, HB⟩ := hcut
          cases kq with
          | zero => exact absurd HA.out (by simp [impl_RangeWiden.j2])
          | succ kj72 =>
            have H := HA.out
            clear HA
            simp only [impl_RangeWiden.j2] at H
            by_cases c101 : t247 > a0_1
            · rw [if_pos c101] at H
              have c101b0 : decide (a0_1 < t247) = true := decide_eq_true c101
              clear c101
              have H' := Aside0.mk H
              clear H
              have hnb102 := NB248_243.out
              have hnc102 := NB243_248.out
              have hnb103 := NB248_244.out
              have hnc103 := NB244_248.out
              have hnb104 := NB248_245.out
              have hnc104 := NB245_248.out
              obtain ⟨hcz105_0, hcz105_1, hfz105_0, hfz105_1⟩ := sqc2 BK248
              have hnb106 := NB243_244.out
              have hnc106 := NB244_243.out
              have hnb107 := NB243_245.out
              have hnc107 := NB245_243.out
              obtain ⟨hcz108_0, hcz108_1, hfz108_0, hfz108_1⟩ := sqc2 BK243
              go_wp2
              go_loopg [11, 66] kj72 (fun kq v11 v66 w' => ∃ (x11_3 : Int) (x66_3 : Int), v11 = .int .i64 x11_3 ∧ v66 = .int .i64 x66_3 ∧ Aside0 (impl_RangeWiden.l1 kq x11_3 l2 (l2.length : Int) x66_3 x249000_72 t247 = some (r1, r2)) ∧ Aside0 (kq ≤ kj72) ∧ Aside0 (w'.heap[gb243]? = some (.cells #[.int .i64 a0_0, .int .i64 a0_1] 27 (0, 0))) ∧ Aside0 (w'.heap[gb244]? = some (.cells #[.int .i64 a1_0, .int .i64 a1_1] 27 (0, 0))) ∧ Aside0 (w'.heap[gb245]? = some (.cells #[.int .i64 0, .int .i64 0] 27 (0, 0))) ∧ Aside0 (w'.heap[gb248]? = some (.cells #[.int .i64 x249000_72, .int .i64 t247] 27 (0, 0))) ∧ Aside0 (Below w.heap.size w w'))
              case atStart => exact ⟨(2147483647), (0), (by first | rfl | (simp; done) | (simp [*]; done)), (by first | rfl | (simp; done) | (simp [*]; done)), H', ⟨Nat.le_refl _⟩, sqk BK243, sqk BK244, sqk BK245, sqk BK248, sqh HB⟩
              case round =>
                clear H'
                try clear c1
                try clear c2
                try clear p2
                try clear q2
                try clear hx2
                try clear c3
                try clear c4
                try clear c5
                try clear c6
                try clear p6
                try clear c7
                try clear c8
                try clear c9
                try clear c10
                try clear c12
                try clear c16
                try clear c17
                try clear c18
                try clear c21
                try clear c23
                try clear c25
                try clear p25
                try clear q25
                try clear hx25
                try clear c26
                try clear c27
                try clear c28
                try clear c31
                try clear c32
                try clear c38
                try clear c39
                try clear c40
                try clear c41
                try clear c43
                try clear c44
                try clear c46
                try clear c51
                try clear c52
                try clear c53
                try clear c56
                try clear c57
                try clear c60
                try clear c61
                try clear c62
                try clear p64
                try clear c65
                try clear c66
                try clear c67
                try clear c68
                try clear c70
                try clear c71
                try clear c74
                try clear c75
                try clear c76
                try clear c78
                try clear c79
                try clear c81
                try clear c81b0
                try clear c82
                try clear c82b0
                try clear c83
                try clear c83b0
                try clear c84
                try clear c84b0
                try clear c86
                try clear c87
                try clear c87b0
                try clear c89
                try clear c90
                try clear c91
                try clear c92
                try clear c93
                try clear c94
                try clear c95
                try clear c97
                try clear c98
                try clear c99
                try clear c101
                try clear c101b0
                try clear c102
                try clear c103
                try clear c104
                try clear c106
                try clear c107
                try clear hcz100_0
                try clear hcz100_1
                try clear hcz105_0
                try clear hcz105_1
                try clear hcz108_0
                try clear hcz108_1
                try clear hcz11_0
                try clear hcz11_1
                try clear hcz13_0
                try clear hcz13_1
                try clear hcz19_0
                try clear hcz19_1
                try clear hcz29_0
                try clear hcz29_1
                try clear hcz33_0
                try clear hcz33_1
                try clear hcz35_0
                try clear hcz35_1
                try clear hcz41_0
                try clear hcz41_1
                try clear hcz45_0
                try clear hcz45_1
                try clear hcz47_0
                try clear hcz47_1
                try clear hcz49_0
                try clear hcz49_1
                try clear hcz54_0
                try clear hcz54_1
                try clear hcz58_0
                try clear hcz58_1
                try clear hcz63_0
                try clear hcz63_1
                try clear hcz69_0
                try clear hcz69_1
                try clear hcz72_0
                try clear hcz72_1
                try clear hcz77_0
                try clear hcz77_1
                try clear hcz80_0
                try clear hcz80_1
                try clear hcz92_0
                try clear hcz92_1
                try clear hcz96_0
                try clear hcz96_1
                try clear hfz100_0
                try clear hfz100_1
                try clear hfz105_0
                try clear hfz105_1
                try clear hfz108_0
                try clear hfz108_1
                try clear hfz11_0
                try clear hfz11_1
                try clear hfz13_0
                try clear hfz13_1
                try clear hfz19_0
                try clear hfz19_1
                try clear hfz29_0
                try clear hfz29_1
                try clear hfz33_0
                try clear hfz33_1
                try clear hfz35_0
                try clear hfz35_1
                try clear hfz41_0
                try clear hfz41_1
                try clear hfz45_0
                try clear hfz45_1
                try clear hfz47_0
                try clear hfz47_1
                try clear hfz49_0
                try clear hfz49_1
                try clear hfz54_0
                try clear hfz54_1
                try clear hfz58_0
                try clear hfz58_1
                try clear hfz63_0
                try clear hfz63_1
                try clear hfz69_0
                try clear hfz69_1
                try clear hfz72_0
                try clear hfz72_1
                try clear hfz77_0
                try clear hfz77_1
                try clear hfz80_0
                try clear hfz80_1
                try clear hfz92_0
                try clear hfz92_1
                try clear hfz96_0
                try clear hfz96_1
                try clear hx253_0
                try clear p2
                try clear p25
                try clear p253
                try clear p6
                try clear p64
                try clear q2
                try clear q25
                try clear q253
                obtain ⟨x11_3, x66_3, rfl, rfl, HA, HK3, BK243, BK244, BK245, BK248, HB⟩ := hrel
                cases gk with
                | zero => exact absurd HA.out (by simp [impl_RangeWiden.l1])
                | succ k3 =>
                  have H := HA.out
                  clear HA
                  simp only [impl_RangeWiden.l1] at H
                  by_cases c109 : x66_3 < (l2.length : Int)
                  · rw [if_pos c109] at H
                    have c109b0 : decide (x66_3 < (l2.length : Int)) = true := decide_eq_true c109
                    clear c109
                    by_cases c110 : 0 ≤ x66_3
                    · rw [if_pos c110] at H
                      have c110b0 : decide (0 ≤ x66_3) = true := decide_eq_true c110
                      clear c110
                      by_cases c111 : x66_3 < (l2.length : Int)
                      · rw [if_pos c111] at H
                        have c111b0 : decide (x66_3 < (l2.length : Int)) = true := decide_eq_true c111
                        clear c111
                        replace H := Option.bind_eq_some_iff.mp H
                        obtain ⟨t256, A1120, H⟩ := H
                        replace H : (if t256 = true then (if (rd l2 x66_3) ≥ t247 then (impl_RangeWiden.l1 k3 (mn x11_3 (rd l2 x66_3)) l2 (l2.length : Int) (wrap64 (x66_3 + 1)) x249000_72 t247) else (impl_RangeWiden.l1 k3 x11_3 l2 (l2.length : Int) (wrap64 (x66_3 + 1)) x249000_72 t247)) else (impl_RangeWiden.l1 k3 x11_3 l2 (l2.length : Int) (wrap64 (x66_3 + 1)) x249000_72 t247)) = some (r1, r2) := H
                        have A112 := Aside0.mk A1120
                        clear A1120
                        by_cases c113 : t256 = true
                        · subst c113
                          have H1 : (if (rd l2 x66_3) ≥ t247 then (impl_RangeWiden.l1 k3 (mn x11_3 (rd l2 x66_3)) l2 (l2.length : Int) (wrap64 (x66_3 + 1)) x249000_72 t247) else (impl_RangeWiden.l1 k3 x11_3 l2 (l2.length : Int) (wrap64 (x66_3 + 1)) x249000_72 t247)) = some (r1, r2) := by rw [if_pos rfl] at H; exact H
                          clear H
                          have H := H1
                          clear H1
                          by_cases c114 : (rd l2 x66_3) ≥ t247
                          · rw [if_pos c114] at H
                            have c114b0 : decide (t247 ≤ (rd l2 x66_3)) = true := decide_eq_true c114
                            clear c114
                            obtain ⟨ji115, hji115⟩ : ∃ j_ : Int, (mn x11_3 (rd l2 x66_3)) = j_ := ⟨_, rfl⟩
                            replace H : (impl_RangeWiden.l1 k3 ji115 l2 (l2.length : Int) (wrap64 (x66_3 + 1)) x249000_72 t247) = some (r1, r2) := by first | (rw [hji115] at H; exact H) | (simp only [hji115] at H ⊢; exact H)
                            (try rw [hji115] at A112)
                            have hji115_ : (if (rd l2 x66_3) < x11_3 then (rd l2 x66_3) else x11_3) = ji115 := hji115
                            have H' := Aside0.mk H
                            clear H
                            have p255 : 0 ≤ (x66_3 : Int) := of_decide_eq_true (by first | (with_reducible assumption) | assumption)
                            have q255 : x66_3 < (l2.length : Int) := of_decide_eq_true (by first | (with_reducible assumption) | assumption)
                            obtain ⟨ad255, e255, hx255_0⟩ := Kd.at_int HR2.out x66_3 p255 q255
                            cases e255
                            replace hx255_0 := (HB.out.cell (World.block_lt_of_cell? w _ hx255_0)).trans hx255_0
                            replace p255 := eq_true p255
                            replace q255 := eq_true q255
                            go_wp2_with (first | ((with_reducible refine gate_callee (f := 92) rfl ?_); refine sqL (some 71) Try.func92 #[.int .i64 (rd l2 x66_3)] ?_; (with_reducible refine (impl_NumOk.calls (rd l2 x66_3) true _ A112.out).mono ?_); rintro e w' ⟨rfl, ⟨nd, rfl⟩⟩; refine ⟨_, rfl, ?_⟩; have hnb116 := NB248_243.out; have hnc116 := NB243_248.out; have hnb117 := NB248_244.out; have hnc117 := NB244_248.out; have hnb118 := NB248_245.out; have hnc118 := NB245_248.out; obtain ⟨hcz119_0, hcz119_1, hfz119_0, hfz119_1⟩ := sqc2 BK248))
                            go_roundg k3
                            case measure => have := HJ4.out; have := HJ72.out; have := HK3.out; omega
                            case rel => exact ⟨(ji115), (wrap64 (x66_3 + 1)), (by first | rfl | (simp; done) | (simp only [← hji115] <;> (first | rfl | simp)) | (simp [*]; done)), (by first | rfl | (simp; done) | (simp [*]; done)), H', ⟨by have := HJ4.out; have := HJ72.out; have := HK3.out; omega⟩, sqk BK243, sqk BK244, sqk BK245, sqk BK248, sqh HB⟩
                          · rw [if_neg c114] at H
                            have c114b0 : decide (t247 ≤ (rd l2 x66_3)) = false := decide_eq_false c114
                            clear c114
                            have H' := Aside0.mk H
                            clear H
                            have p255 : 0 ≤ (x66_3 : Int) := of_decide_eq_true (by first | (with_reducible assumption) | assumption)
                            have q255 : x66_3 < (l2.length : Int) := of_decide_eq_true (by first | (with_reducible assumption) | assumption)
                            obtain ⟨ad255, e255, hx255_0⟩ := Kd.at_int HR2.out x66_3 p255 q255
                            cases e255
                            replace hx255_0 := (HB.out.cell (World.block_lt_of_cell? w _ hx255_0)).trans hx255_0
                            replace p255 := eq_true p255
                            replace q255 := eq_true q255
                            go_wp2_with (first | ((with_reducible refine gate_callee (f := 92) rfl ?_); refine sqL (some 71) Try.func92 #[.int .i64 (rd l2 x66_3)] ?_; (with_reducible refine (impl_NumOk.calls (rd l2 x66_3) true _ A112.out).mono ?_); rintro e w' ⟨rfl, ⟨nd, rfl⟩⟩; refine ⟨_, rfl, ?_⟩; have hnb120 := NB248_243.out; have hnc120 := NB243_248.out; have hnb121 := NB248_244.out; have hnc121 := NB244_248.out; have hnb122 := NB248_245.out; have hnc122 := NB245_248.out; obtain ⟨hcz123_0, hcz123_1, hfz123_0, hfz123_1⟩ := sqc2 BK248))
                            go_roundg k3
                            case measure => have := HJ4.out; have := HJ72.out; have := HK3.out; omega
                            case rel => exact ⟨(x11_3), (wrap64 (x66_3 + 1)), (by first | rfl | (simp; done) | (simp [*]; done)), (by first | rfl | (simp; done) | (simp [*]; done)), H', ⟨by have := HJ4.out; have := HJ72.out; have := HK3.out; omega⟩, sqk BK243, sqk BK244, sqk BK245, sqk BK248, sqh HB⟩
                        · replace c113 := Bool.eq_false_iff.mpr c113
                          subst c113
                          have H1 : (impl_RangeWiden.l1 k3 x11_3 l2 (l2.length : Int) (wrap64 (x66_3 + 1)) x249000_72 t247) = some (r1, r2) := by rw [if_neg (show ¬ (false = true) by decide)] at H; exact H
                          clear H
                          have H := H1
                          clear H1
                          have H' := Aside0.mk H
                          clear H
                          have p255 : 0 ≤ (x66_3 : Int) := of_decide_eq_true (by first | (with_reducible assumption) | assumption)
                          have q255 : x66_3 < (l2.length : Int) := of_decide_eq_true (by first | (with_reducible assumption) | assumption)
                          obtain ⟨ad255, e255, hx255_0⟩ := Kd.at_int HR2.out x66_3 p255 q255
                          cases e255
                          replace hx255_0 := (HB.out.cell (World.block_lt_of_cell? w _ hx255_0)).trans hx255_0
                          replace p255 := eq_true p255
                          replace q255 := eq_true q255
                          go_wp2_with (first | ((with_reducible refine gate_callee (f := 92) rfl ?_); refine sqL (some 71) Try.func92 #[.int .i64 (rd l2 x66_3)] ?_; (with_reducible refine (impl_NumOk.calls (rd l2 x66_3) false _ A112.out).mono ?_); rintro e w' ⟨rfl, ⟨nd, rfl⟩⟩; refine ⟨_, rfl, ?_⟩))
                          go_roundg k3
                          case measure => have := HJ4.out; have := HJ72.out; have := HK3.out; omega
                          case rel => exact ⟨(x11_3), (wrap64 (x66_3 + 1)), (by first | rfl | (simp; done) | (simp [*]; done)), (by first | rfl | (simp; done) | (simp [*]; done)), H', ⟨by have := HJ4.out; have := HJ72.out; have := HK3.out; omega⟩, sqk BK243, sqk BK244, sqk BK245, sqk BK248, sqh HB⟩
                      · rw [if_neg c111] at H
                        exact absurd H (by simp)
                    · rw [if_neg c110] at H
                      exact absurd H (by simp)
                  · rw [if_neg c109] at H
                    have c109b0 : decide (x66_3 < (l2.length : Int)) = false := decide_eq_false c109
                    clear c109
                    simp only [Option.some.injEq, Prod.mk.injEq] at H
                    obtain ⟨rfl, rfl⟩ := H
                    have hnb124 := NB248_243.out
                    have hnc124 := NB243_248.out
                    have hnb125 := NB248_244.out
                    have hnc125 := NB244_248.out
                    have hnb126 := NB248_245.out
                    have hnc126 := NB245_248.out
                    obtain ⟨hcz127_0, hcz127_1, hfz127_0, hfz127_1⟩ := sqc2 BK248
                    have hnb128 := NB245_243.out
                    have hnc128 := NB243_245.out
                    have hnb129 := NB245_244.out
                    have hnc129 := NB244_245.out
                    obtain ⟨hcz130_0, hcz130_1, hfz130_0, hfz130_1⟩ := sqc2 BK245
                    go_wp2
                    refine bodyPost_ret (results_cell_row rfl _ _ gb245 27 #[.int .i64 x249000_72, .int .i64 x11_3] (0, 0) _ rfl (by refine sqt ?_; refine blk_put (cs := #[.int .i64 x249000_72, .int .i64 0]) ?_ 1 _ rfl; refine sqt ?_; refine blk_put (cs := #[.int .i64 0, .int .i64 0]) ?_ 0 _ rfl; refine sqt ?_; refine blk_far ?_ NB245_248.out _; refine sqt ?_; exact BK245.out) Try.underlying27 rfl (by kernel_rfl)) rfl ?_
                    exact sqe HB
            · rw [if_neg c101] at H
              have c101b0 : decide (a0_1 < t247) = false := decide_eq_false c101
              clear c101
              simp only [Option.some.injEq, Prod.mk.injEq] at H
              obtain ⟨rfl, rfl⟩ := H
              have hnb131 := NB248_243.out
              have hnc131 := NB243_248.out
              have hnb132 := NB248_244.out
              have hnc132 := NB244_248.out
              have hnb133 := NB248_245.out
              have hnc133 := NB245_248.out
              obtain ⟨hcz134_0, hcz134_1, hfz134_0, hfz134_1⟩ := sqc2 BK248
              have hnb135 := NB243_244.out
              have hnc135 := NB244_243.out
              have hnb136 := NB243_245.out
              have hnc136 := NB245_243.out
              obtain ⟨hcz137_0, hcz137_1, hfz137_0, hfz137_1⟩ := sqc2 BK243
              have hnb138 := NB245_244.out
              have hnc138 := NB244_245.out
              obtain ⟨hcz139_0, hcz139_1, hfz139_0, hfz139_1⟩ := sqc2 BK245
              go_wp2
              refine bodyPost_ret (results_cell_row rfl _ _ gb245 27 #[.int .i64 x249000_72, .int .i64 t247] (0, 0) _ rfl (by refine sqt ?_; refine blk_put (cs := #[.int .i64 x249000_72, .int .i64 0]) ?_ 1 _ rfl; refine sqt ?_; refine blk_put (cs := #[.int .i64 0, .int .i64 0]) ?_ 0 _ rfl; refine sqt ?_; exact BK245.out) Try.underlying27 rfl (by kernel_rfl)) rfl ?_
              exact sqe HB

end Go.Proofs.Ytmdcgkkkfncieaa.PFnRangeLattice
