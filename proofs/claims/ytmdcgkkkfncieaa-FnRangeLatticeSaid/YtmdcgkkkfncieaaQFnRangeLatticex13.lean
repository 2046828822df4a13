/- Functions of the program as plain Lean functions, and that calls of them come to what these tell. Conditions: those in each law. -/
import Derived.Test.YtmdcgkkkfncieaaSq
import Derived.Test.YtmdcgkkkfncieaaDFnRangeLattice
import Derived.Test.YtmdcgkkkfncieaaQFnRangeLatticex0
import Derived.Test.YtmdcgkkkfncieaaQFnRangeLatticex1
import Derived.Test.YtmdcgkkkfncieaaQFnRangeLatticex2
import Derived.Test.YtmdcgkkkfncieaaQFnRangeLatticex3
import Derived.Test.YtmdcgkkkfncieaaQFnRangeLatticex11
import Derived.Test.YtmdcgkkkfncieaaQFnRangeLatticex12
namespace Go.Proofs.Ytmdcgkkkfncieaa.PFnRangeLattice
open Go.RowKit Go.Proofs.Ytmdcgkkkfncieaa.Sq Go.Proofs.YtmdcgkkkfncieaaW.PrintWords Go.Proofs.YtmdcgkkkfncieaaW.PrintLast Go.Proofs.YtmdcgkkkfncieaaW.PrintMore
attribute [local go_sem] max2_int min2_int max_two min_two max_three min_three max_four min_four   -- for this text's walks alone
set_option linter.unusedVariables false
set_option linter.unusedSimpArgs false

attribute [local go_sem high] eqA27
/-! ### spec_RangeWiden: function 44 -/
theorem spec_RangeWiden.mono_l : ∀ k, (∀ y0 y1 y2 y3 y4 y5, LeO (spec_RangeWiden.j0 k y0 y1 y2 y3 y4 y5) (spec_RangeWiden.j0 (k + 1) y0 y1 y2 y3 y4 y5))
  | 0 => fun _ _ _ _ _ _ r h => by simp [spec_RangeWiden.j0] at h
  | k + 1 => by
    have ih0 := spec_RangeWiden.mono_l k
    · intro y0 y1 y2 y3 y4 y5
      unfold spec_RangeWiden.j0
      repeat' first
      | (with_reducible exact ih0 _ _ _ _ _ _)
      | (with_reducible exact spec_RangeJoin.mono _ _ _ _ _)
      | (with_reducible exact spec_l8Down.mono _ _ _)
      | (with_reducible exact spec_l8Up.mono _ _ _)
      | (with_reducible exact LeO.refl _)
      | (with_reducible exact LeO.none _)
      | (with_reducible refine LeO.ite ?_ ?_)
      | (with_reducible refine LeO.bind ?_ (fun _ => ?_))
      | exact ih0 _ _ _ _ _ _
      | exact spec_RangeJoin.mono _ _ _ _ _
      | exact spec_l8Down.mono _ _ _
      | exact spec_l8Up.mono _ _ _
      | exact LeO.none _
      | refine LeO.ite ?_ ?_
      | refine LeO.bind ?_ (fun _ => ?_)
theorem spec_RangeWiden.mono : ∀ a0 a1 a2 a3 a4 k, LeO (spec_RangeWiden.f k a0 a1 a2 a3 a4) (spec_RangeWiden.f (k + 1) a0 a1 a2 a3 a4) := by
  intro a0 a1 a2 a3 a4 k
  have ih0 := spec_RangeWiden.mono_l k
  unfold spec_RangeWiden.f
  repeat' first
      | (with_reducible exact ih0 _ _ _ _ _ _)
      | (with_reducible exact spec_RangeJoin.mono _ _ _ _ _)
      | (with_reducible exact spec_l8Down.mono _ _ _)
      | (with_reducible exact spec_l8Up.mono _ _ _)
      | (with_reducible exact LeO.refl _)
      | (with_reducible exact LeO.none _)
      | (with_reducible refine LeO.ite ?_ ?_)
      | (with_reducible refine LeO.bind ?_ (fun _ => ?_))
      | exact ih0 _ _ _ _ _ _
      | exact spec_RangeJoin.mono _ _ _ _ _
      | exact spec_l8Down.mono _ _ _
      | exact spec_l8Up.mono _ _ _
      | exact LeO.none _
      | refine LeO.ite ?_ ?_
      | refine LeO.bind ?_ (fun _ => ?_)
def spec_RangeWiden.T2 : Bool × List (List Nat × List Nat) := (true, [([], []), ([0], [0]), ([1], [1]), ([2, 1], [2]), ([3], [3]), ([4, 3, 3], [3, 4]), ([5, 3], [3, 5]), ([3, 6], [3, 6]), ([7, 5], [7]), ([8], [8]), ([8, 8], [8]), ([9, 10, 8], [8, 9, 10]), ([8, 11], [8, 11]), ([12, 10], [12]), ([13], [13]), ([13, 13], [13]), ([14, 15, 13], [13, 14, 15]), ([13, 16], [13, 16])])
def spec_RangeWiden.B2 : List Nat := [0, 1, 3, 7, 15, 31, 63, 127, 255, 511, 511, 2047, 4095, 8191, 16383, 16383, 65535, 131071]
theorem spec_RangeWiden.tab2 : rtab .any (opsOf Try.f44 2) = spec_RangeWiden.T2 := by kernel_rfl
theorem spec_RangeWiden.bits2 : waitsOk spec_RangeWiden.T2.2 spec_RangeWiden.B2 = true := by kernel_rfl
set_option maxHeartbeats 8000000 in
set_option maxRecDepth 100000 in
theorem spec_RangeWiden.calls (k : Nat) (a0_0 : Int) (a0_1 : Int) (a1_0 : Int) (a1_1 : Int) (A2 : Option Addr) (c2 : Nat) (l2 : List Int) (r1 : Int) (r2 : Int) (w : World) (hr2 : Kd.C (Kd.int .i64) w A2 l2.length l2) (hc2 : l2.length ≤ c2) (h : spec_RangeWiden.f k a0_0 a0_1 a1_0 a1_1 l2 = some (r1, r2)) :
    Calls Try.prog 44 #[.agg #[.int .i64 a0_0, .int .i64 a0_1], .agg #[.int .i64 a1_0, .int .i64 a1_1], .slice A2 l2.length c2] w fun e w' => e = .returned (.agg #[.int .i64 r1, .int .i64 r2]) ∧ Below w.heap.size w w' := by
  have hu27 := Try.underlying27
  have HR2 := Aside0.mk hr2
  have HC2 := Aside0.mk hc2
  clear hr2 hc2
  have HB := Aside0.mk (Below.refl w.heap.size w)
  have H : ((spec_RangeJoin.f k a0_0 a0_1 a1_0 a1_1).bind fun bt279 => ((spec_RangeOk.f a0_0 a0_1).bind fun t282 => (if t282 = true then ((spec_RangeOk.f a1_0 a1_1).bind fun t283 => (if t283 = true then ((spec_l8None.f).bind fun bt284 => (if (a0_0 == bt284.1 && (a0_1 == bt284.2)) = true then (spec_RangeWiden.j0 k l2 true a0_0 a0_1 bt279.1 bt279.2) else ((spec_l8None.f).bind fun bt286 => (spec_RangeWiden.j0 k l2 (a1_0 == bt286.1 && (a1_1 == bt286.2)) a0_0 a0_1 bt279.1 bt279.2)))) else (spec_RangeWiden.j0 k l2 true a0_0 a0_1 bt279.1 bt279.2))) else (spec_RangeWiden.j0 k l2 true a0_0 a0_1 bt279.1 bt279.2)))) = some (r1, r2) := h
  clear h
  replace H := Option.bind_eq_some_iff.mp H
  obtain ⟨⟨t279, t280⟩, A40, H⟩ := H
  replace H : ((spec_RangeOk.f a0_0 a0_1).bind fun t282 => (if t282 = true then ((spec_RangeOk.f a1_0 a1_1).bind fun t283 => (if t283 = true then ((spec_l8None.f).bind fun bt284 => (if (a0_0 == bt284.1 && (a0_1 == bt284.2)) = true then (spec_RangeWiden.j0 k l2 true a0_0 a0_1 t279 t280) else ((spec_l8None.f).bind fun bt286 => (spec_RangeWiden.j0 k l2 (a1_0 == bt286.1 && (a1_1 == bt286.2)) a0_0 a0_1 t279 t280)))) else (spec_RangeWiden.j0 k l2 true a0_0 a0_1 t279 t280))) else (spec_RangeWiden.j0 k l2 true a0_0 a0_1 t279 t280))) = some (r1, r2) := H
  have A4 := Aside0.mk A40
  clear A40
  have HC5 := Aside0.mk H
  clear H
  go_enter Try.func44, Try.ntmps44
  go_upto_region 2 with (first | ((with_reducible refine gate_dst (N := 3) rfl ?_); refine sqx 3 #[.int .i64 a0_0, .int .i64 a0_1] 27 ?_; intro gb276 hg w6 hbox hb; have BK276 := Aside0.mk (hbox); have GW276 := sqg HB hg; have GE276 := sqg HB hg; replace HB := sqs HB hb; clear hb hbox hg) | ((with_reducible refine gate_dst (N := 4) rfl ?_); refine sqx 4 #[.int .i64 a1_0, .int .i64 a1_1] 27 ?_; intro gb277 hg w7 hbox hb; have BK277 := Aside0.mk (hbox); have GW277 := sqg HB hg; have GE277 := sqg HB hg; have NB276_277 := sqn BK276 hg; have NB277_276 := sqm BK276 hg; replace BK276 := sqb BK276 hb; replace HB := sqs HB hb; clear hb hbox hg) | ((with_reducible refine gate_dst (N := 6) rfl ?_); refine sqx 6 #[.int .i64 0, .int .i64 0] 27 ?_; intro gb278 hg w8 hbox hb; have BK278 := Aside0.mk (hbox); have GW278 := sqg HB hg; have GE278 := sqg HB hg; have NB276_278 := sqn BK276 hg; have NB278_276 := sqm BK276 hg; have NB277_278 := sqn BK277 hg; have NB278_277 := sqm BK277 hg; replace BK276 := sqb BK276 hb; replace BK277 := sqb BK277 hb; replace HB := sqs HB hb; clear hb hbox hg; have hnb9 := NB276_277.out; have hnc9 := NB277_276.out; have hnb10 := NB276_278.out; have hnc10 := NB278_276.out; obtain ⟨hcz11_0, hcz11_1, hfz11_0, hfz11_1⟩ := sqc2 BK276; have hnb12 := NB277_278.out; have hnc12 := NB278_277.out; obtain ⟨hcz13_0, hcz13_1, hfz13_0, hfz13_1⟩ := sqc2 BK277) | ((with_reducible refine gate_callee (f := 48) rfl ?_); refine sqL (some 10) Try.func48 #[.agg #[.int .i64 a0_0, .int .i64 a0_1], .agg #[.int .i64 a1_0, .int .i64 a1_1]] ?_; (with_reducible refine (spec_RangeJoin.calls k a0_0 a0_1 a1_0 a1_1 t279 t280 _ A4.out).mono ?_); rintro e w14 ⟨rfl, hb⟩; refine ⟨_, rfl, ?_⟩; replace BK276 := sqb BK276 hb; replace BK277 := sqb BK277 hb; replace BK278 := sqb BK278 hb; replace HB := sqs HB hb; (try clear hb)) | ((with_reducible refine gate_dst (N := 7) rfl ?_); refine sqx 7 #[.int .i64 0, .int .i64 0] 27 ?_; intro gb281 hg w15 hbox hb; have BK281 := Aside0.mk (hbox); have GW281 := sqg HB hg; have GE281 := sqg HB hg; have NB276_281 := sqn BK276 hg; have NB281_276 := sqm BK276 hg; have NB277_281 := sqn BK277 hg; have NB281_277 := sqm BK277 hg; have NB278_281 := sqn BK278 hg; have NB281_278 := sqm BK278 hg; replace BK276 := sqb BK276 hb; replace BK277 := sqb BK277 hb; replace BK278 := sqb BK278 hb; replace HB := sqs HB hb; clear hb hbox hg; have hnb16 := NB281_276.out; have hnc16 := NB276_281.out; have hnb17 := NB281_277.out; have hnc17 := NB277_281.out; have hnb18 := NB281_278.out; have hnc18 := NB278_281.out; obtain ⟨hcz19_0, hcz19_1, hfz19_0, hfz19_1⟩ := sqc2 BK281))
  (try simp only [Act.put, List.setIfInBounds_toArray, List.set_cons_zero, List.set_cons_succ])
  go_cut [28] (fun v28 wc => ∃ (kq : Nat) (x28_4 : Bool), v28 = .bool x28_4 ∧ Aside0 (spec_RangeWiden.j0 kq l2 x28_4 a0_0 a0_1 t279 t280 = some (r1, r2)) ∧ Aside0 (kq ≤ k) ∧ Aside0 (wc.heap[gb276]? = some (.cells #[.int .i64 a0_0, .int .i64 a0_1] 27 (0, 0))) ∧ Aside0 (wc.heap[gb277]? = some (.cells #[.int .i64 a1_0, .int .i64 a1_1] 27 (0, 0))) ∧ Aside0 (wc.heap[gb278]? = some (.cells #[.int .i64 0, .int .i64 0] 27 (0, 0))) ∧ Aside0 (wc.heap[gb281]? = some (.cells #[.int .i64 t279, .int .i64 t280] 27 (0, 0))) ∧ Aside0 (Below w.heap.size w wc))
  case first =>
    have H := HC5.out
    clear HC5
    replace H := Option.bind_eq_some_iff.mp H
    obtain ⟨t282, A200, H⟩ := H
    replace H : (if t282 = true then ((spec_RangeOk.f a1_0 a1_1).bind fun t283 => (if t283 = true then ((spec_l8None.f).bind fun bt284 => (if (a0_0 == bt284.1 && (a0_1 == bt284.2)) = true then (spec_RangeWiden.j0 k l2 true a0_0 a0_1 t279 t280) else ((spec_l8None.f).bind fun bt286 => (spec_RangeWiden.j0 k l2 (a1_0 == bt286.1 && (a1_1 == bt286.2)) a0_0 a0_1 t279 t280)))) else (spec_RangeWiden.j0 k l2 true a0_0 a0_1 t279 t280))) else (spec_RangeWiden.j0 k l2 true a0_0 a0_1 t279 t280)) = some (r1, r2) := H
    have A20 := Aside0.mk A200
    clear A200
    by_cases c21 : t282 = true
    · subst c21
      have H1 : ((spec_RangeOk.f a1_0 a1_1).bind fun t283 => (if t283 = true then ((spec_l8None.f).bind fun bt284 => (if (a0_0 == bt284.1 && (a0_1 == bt284.2)) = true then (spec_RangeWiden.j0 k l2 true a0_0 a0_1 t279 t280) else ((spec_l8None.f).bind fun bt286 => (spec_RangeWiden.j0 k l2 (a1_0 == bt286.1 && (a1_1 == bt286.2)) a0_0 a0_1 t279 t280)))) else (spec_RangeWiden.j0 k l2 true a0_0 a0_1 t279 t280))) = some (r1, r2) := by rw [if_pos rfl] at H; exact H
      clear H
      have H := H1
      clear H1
      replace H := Option.bind_eq_some_iff.mp H
      obtain ⟨t283, A220, H⟩ := H
      replace H : (if t283 = true then ((spec_l8None.f).bind fun bt284 => (if (a0_0 == bt284.1 && (a0_1 == bt284.2)) = true then (spec_RangeWiden.j0 k l2 true a0_0 a0_1 t279 t280) else ((spec_l8None.f).bind fun bt286 => (spec_RangeWiden.j0 k l2 (a1_0 == bt286.1 && (a1_1 == bt286.2)) a0_0 a0_1 t279 t280)))) else (spec_RangeWiden.j0 k l2 true a0_0 a0_1 t279 t280)) = some (r1, r2) := H
      have A22 := Aside0.mk A220
      clear A220
      by_cases c23 : t283 = true
      · subst c23
        have H1 : ((spec_l8None.f).bind fun bt284 => (if (a0_0 == bt284.1 && (a0_1 == bt284.2)) = true then (spec_RangeWiden.j0 k l2 true a0_0 a0_1 t279 t280) else ((spec_l8None.f).bind fun bt286 => (spec_RangeWiden.j0 k l2 (a1_0 == bt286.1 && (a1_1 == bt286.2)) a0_0 a0_1 t279 t280)))) = some (r1, r2) := by rw [if_pos rfl] at H; exact H
        clear H
        have H := H1
        clear H1
        replace H := Option.bind_eq_some_iff.mp H
        obtain ⟨⟨t284, t285⟩, A240, H⟩ := H
        replace H : (if (a0_0 == t284 && (a0_1 == t285)) = true then (spec_RangeWiden.j0 k l2 true a0_0 a0_1 t279 t280) else ((spec_l8None.f).bind fun bt286 => (spec_RangeWiden.j0 k l2 (a1_0 == bt286.1 && (a1_1 == bt286.2)) a0_0 a0_1 t279 t280))) = some (r1, r2) := H
        have A24 := Aside0.mk A240
        clear A240
        by_cases c25 : (a0_0 == t284 && (a0_1 == t285)) = true
        · rw [if_pos c25] at H
          have c25b0 : (a0_0 == t284 && (a0_1 == t285)) = true := c25
          (try (have c25b1 : decide (a0_0 = t284 && (a0_1 == t285)) = true := by simpa using c25))
          (try (have c25b2 : (a0_0 == t284 && (a0_1 == t285)) = true := by simpa using c25))
          clear c25
          (first | rw [c25b0] | (simp only [i64_w, i32_w]; rw [c25b0]) | skip)
          have H' := Aside0.mk H
          clear H
          try go_wp2
          have n0_ : Aside0 (((w15.setCell ⟨gb281, 0, none⟩ (.int .i64 t279)).setCell ⟨gb281, 1, none⟩ (.int .i64 t280)).heap[gb276]? = some (.cells #[.int .i64 a0_0, .int .i64 a0_1] 27 (0, 0))) := ⟨by refine sqt ?_; refine blk_far ?_ NB276_281.out _; refine sqt ?_; refine blk_far ?_ NB276_281.out _; refine sqt ?_; exact BK276.out⟩
          have n1_ : Aside0 (((w15.setCell ⟨gb281, 0, none⟩ (.int .i64 t279)).setCell ⟨gb281, 1, none⟩ (.int .i64 t280)).heap[gb277]? = some (.cells #[.int .i64 a1_0, .int .i64 a1_1] 27 (0, 0))) := ⟨by refine sqt ?_; refine blk_far ?_ NB277_281.out _; refine sqt ?_; refine blk_far ?_ NB277_281.out _; refine sqt ?_; exact BK277.out⟩
          have n2_ : Aside0 (((w15.setCell ⟨gb281, 0, none⟩ (.int .i64 t279)).setCell ⟨gb281, 1, none⟩ (.int .i64 t280)).heap[gb278]? = some (.cells #[.int .i64 0, .int .i64 0] 27 (0, 0))) := ⟨by refine sqt ?_; refine blk_far ?_ NB278_281.out _; refine sqt ?_; refine blk_far ?_ NB278_281.out _; refine sqt ?_; exact BK278.out⟩
          have n3_ : Aside0 (((w15.setCell ⟨gb281, 0, none⟩ (.int .i64 t279)).setCell ⟨gb281, 1, none⟩ (.int .i64 t280)).heap[gb281]? = some (.cells #[.int .i64 t279, .int .i64 t280] 27 (0, 0))) := ⟨by refine sqt ?_; refine blk_put (cs := #[.int .i64 t279, .int .i64 0]) ?_ 1 _ rfl; refine sqt ?_; refine blk_put (cs := #[.int .i64 0, .int .i64 0]) ?_ 0 _ rfl; refine sqt ?_; exact BK281.out⟩
          have n4_ : Aside0 (Below w.heap.size w ((w15.setCell ⟨gb281, 0, none⟩ (.int .i64 t279)).setCell ⟨gb281, 1, none⟩ (.int .i64 t280))) := sqh HB
          (try clear BK276)
          (try clear BK277)
          (try clear BK278)
          (try clear BK281)
          (try clear HB)
          generalize ((w15.setCell ⟨gb281, 0, none⟩ (.int .i64 t279)).setCell ⟨gb281, 1, none⟩ (.int .i64 t280)) = w26 at n0_ n1_ n2_ n3_ n4_ ⊢
          have BK276 := n0_
          have BK277 := n1_
          have BK278 := n2_
          have BK281 := n3_
          have HB := n4_
          clear n0_ n1_ n2_ n3_ n4_
          replace BK276 := Aside0.mk (blk_drew BK276.out)
          replace BK277 := Aside0.mk (blk_drew BK277.out)
          replace BK278 := Aside0.mk (blk_drew BK278.out)
          replace BK281 := Aside0.mk (blk_drew BK281.out)
          replace HB := Aside0.mk (below_drew1 HB.out)
          refine start_ (n := 18) (S := fun w' => w'.cell? ⟨gb276, 0, none⟩ = some (.int .i64 a0_0) ∧ w'.cell? ⟨gb276, 1, none⟩ = some (.int .i64 a0_1) ∧ w'.cell? ⟨gb277, 0, none⟩ = some (.int .i64 a1_0) ∧ w'.cell? ⟨gb277, 1, none⟩ = some (.int .i64 a1_1)) (ds := []) #[false, false, false, false, false, false, false, false, false, false, false, false, false, false, false, false, false, false] (by kernel_rfl) rfl rfl ⟨(blk_cell BK276.out 0).trans rfl, (blk_cell BK276.out 1).trans rfl, (blk_cell BK277.out 0).trans rfl, (blk_cell BK277.out 1).trans rfl⟩ (fun hHeld => ?_); refine with_tabW spec_RangeWiden.tab2 spec_RangeWiden.bits2 (fun HT_ HW_ => ?_)
          generalize w26.drew = w27 at BK276 BK277 BK278 BK281 HB hHeld ⊢
          refine sqw HT_ HW_ 0 11 hHeld ?_
          refine sqo HT_ 1 12 (fun K hK => ?_)
          refine sqG Try.func40 #[.agg #[.int .i64 a0_0, .int .i64 a0_1]] ?_
          with_reducible refine (spec_RangeOk.calls a0_0 a0_1 true _ A20.out).mono ?_
          rintro e w28 ⟨rfl, hb⟩
          refine ⟨_, rfl, ?_⟩
          replace BK276 := sqb BK276 hb
          replace BK277 := sqb BK277 hb
          replace BK278 := sqb BK278 hb
          replace BK281 := sqb BK281 hb
          replace HB := sqs HB hb
          (try clear hb)
          refine hK.out _ _ sqz (fun hHeld => ?_)
          clear hK K
          refine sqnm ?_
          refine sqp HT_ 2 13 ?_
          refine sqp HT_ 3 14 ?_
          refine sqw HT_ HW_ 4 15 hHeld ?_
          refine sqo HT_ 5 16 (fun K hK => ?_)
          refine sqG Try.func40 #[.agg #[.int .i64 a1_0, .int .i64 a1_1]] ?_
          with_reducible refine (spec_RangeOk.calls a1_0 a1_1 true _ A22.out).mono ?_
          rintro e w29 ⟨rfl, hb⟩
          refine ⟨_, rfl, ?_⟩
          replace BK276 := sqb BK276 hb
          replace BK277 := sqb BK277 hb
          replace BK278 := sqb BK278 hb
          replace BK281 := sqb BK281 hb
          replace HB := sqs HB hb
          (try clear hb)
          refine hK.out _ _ sqz (fun hHeld => ?_)
          clear hK K
          refine sqnm ?_
          refine sqp HT_ 6 17 ?_
          refine sqp HT_ 7 18 ?_
          refine sqp HT_ 8 19 ?_
          refine sqw HT_ HW_ 9 20 hHeld ?_
          refine sqo HT_ 10 21 (fun K hK => ?_)
          refine sqG Try.func68 #[] ?_
          with_reducible refine (spec_l8None.calls  t284 t285 _ A24.out).mono ?_
          rintro e w30 ⟨rfl, hb⟩
          refine ⟨_, rfl, ?_⟩
          replace BK276 := sqb BK276 hb
          replace BK277 := sqb BK277 hb
          replace BK278 := sqb BK278 hb
          replace BK281 := sqb BK281 hb
          replace HB := sqs HB hb
          (try clear hb)
          refine hK.out _ _ sqz (fun hHeld => ?_)
          clear hK K
          refine sqnm ?_
          refine sqp HT_ 11 22 ?_
          refine sqp HT_ 12 23 ?_
          refine sqp HT_ 13 24 ?_
          refine sqpu HT_ 14 25 ?_
          refine sqpu HT_ 15 26 ?_
          refine sqpu HT_ 16 27 ?_
          refine sqp HT_ 17 28 ?_
          refine done_ (done_of HT_.out (by kernel_rfl)) ?_
          try go_wp2
          go_meet
          case rel => exact ⟨_, (true), (by first | rfl | (simp; done) | (simp [*]; done)), H', ⟨by first | omega | exact Nat.le_refl _⟩, sqk BK276, sqk BK277, sqk BK278, sqk BK281, sqh HB⟩
        · rw [if_neg c25] at H
          have c25b0 : (a0_0 == t284 && (a0_1 == t285)) = false := by simpa using c25
          (try (have c25b1 : decide (a0_0 = t284 && (a0_1 == t285)) = false := by simpa using c25))
          (try (have c25b2 : (a0_0 == t284 && (a0_1 == t285)) = false := by simpa using c25))
          (try (have c25b3 : ¬ (a0_0 = t284 && (a0_1 == t285)) := by simpa using c25))
          clear c25
          (first | rw [c25b0] | (simp only [i64_w, i32_w]; rw [c25b0]) | skip)
          replace H := Option.bind_eq_some_iff.mp H
          obtain ⟨⟨t286, t287⟩, A310, H⟩ := H
          replace H : (spec_RangeWiden.j0 k l2 (a1_0 == t286 && (a1_1 == t287)) a0_0 a0_1 t279 t280) = some (r1, r2) := H
          have A31 := Aside0.mk A310
          clear A310
          have H' := Aside0.mk H
          clear H
          try go_wp2
          have n0_ : Aside0 (((w15.setCell ⟨gb281, 0, none⟩ (.int .i64 t279)).setCell ⟨gb281, 1, none⟩ (.int .i64 t280)).heap[gb276]? = some (.cells #[.int .i64 a0_0, .int .i64 a0_1] 27 (0, 0))) := ⟨by refine sqt ?_; refine blk_far ?_ NB276_281.out _; refine sqt ?_; refine blk_far ?_ NB276_281.out _; refine sqt ?_; exact BK276.out⟩
          have n1_ : Aside0 (((w15.setCell ⟨gb281, 0, none⟩ (.int .i64 t279)).setCell ⟨gb281, 1, none⟩ (.int .i64 t280)).heap[gb277]? = some (.cells #[.int .i64 a1_0, .int .i64 a1_1] 27 (0, 0))) := ⟨by refine sqt ?_; refine blk_far ?_ NB277_281.out _; refine sqt ?_; refine blk_far ?_ NB277_281.out _; refine sqt ?_; exact BK277.out⟩
          have n2_ : Aside0 (((w15.setCell ⟨gb281, 0, none⟩ (.int .i64 t279)).setCell ⟨gb281, 1, none⟩ (.int .i64 t280)).heap[gb278]? = some (.cells #[.int .i64 0, .int .i64 0] 27 (0, 0))) := ⟨by refine sqt ?_; refine blk_far ?_ NB278_281.out _; refine sqt ?_; refine blk_far ?_ NB278_281.out _; refine sqt ?_; exact BK278.out⟩
          have n3_ : Aside0 (((w15.setCell ⟨gb281, 0, none⟩ (.int .i64 t279)).setCell ⟨gb281, 1, none⟩ (.int .i64 t280)).heap[gb281]? = some (.cells #[.int .i64 t279, .int .i64 t280] 27 (0, 0))) := ⟨by refine sqt ?_; refine blk_put (cs := #[.int .i64 t279, .int .i64 0]) ?_ 1 _ rfl; refine sqt ?_; refine blk_put (cs := #[.int .i64 0, .int .i64 0]) ?_ 0 _ rfl; refine sqt ?_; exact BK281.out⟩
          have n4_ : Aside0 (Below w.heap.size w ((w15.setCell ⟨gb281, 0, none⟩ (.int .i64 t279)).setCell ⟨gb281, 1, none⟩ (.int .i64 t280))) := sqh HB
          (try clear BK276)
          (try clear BK277)
          (try clear BK278)
          (try clear BK281)
          (try clear HB)
          generalize ((w15.setCell ⟨gb281, 0, none⟩ (.int .i64 t279)).setCell ⟨gb281, 1, none⟩ (.int .i64 t280)) = w32 at n0_ n1_ n2_ n3_ n4_ ⊢
          have BK276 := n0_
          have BK277 := n1_
          have BK278 := n2_
          have BK281 := n3_
          have HB := n4_
          clear n0_ n1_ n2_ n3_ n4_
          replace BK276 := Aside0.mk (blk_drew BK276.out)
          replace BK277 := Aside0.mk (blk_drew BK277.out)
          replace BK278 := Aside0.mk (blk_drew BK278.out)
          replace BK281 := Aside0.mk (blk_drew BK281.out)
          replace HB := Aside0.mk (below_drew1 HB.out)
          refine start_ (n := 18) (S := fun w' => w'.cell? ⟨gb276, 0, none⟩ = some (.int .i64 a0_0) ∧ w'.cell? ⟨gb276, 1, none⟩ = some (.int .i64 a0_1) ∧ w'.cell? ⟨gb277, 0, none⟩ = some (.int .i64 a1_0) ∧ w'.cell? ⟨gb277, 1, none⟩ = some (.int .i64 a1_1)) (ds := []) #[false, false, false, false, false, false, false, false, false, false, false, false, false, false, false, false, false, false] (by kernel_rfl) rfl rfl ⟨(blk_cell BK276.out 0).trans rfl, (blk_cell BK276.out 1).trans rfl, (blk_cell BK277.out 0).trans rfl, (blk_cell BK277.out 1).trans rfl⟩ (fun hHeld => ?_); refine with_tabW spec_RangeWiden.tab2 spec_RangeWiden.bits2 (fun HT_ HW_ => ?_)
          generalize w32.drew = w33 at BK276 BK277 BK278 BK281 HB hHeld ⊢
          refine sqw HT_ HW_ 0 11 hHeld ?_
          refine sqo HT_ 1 12 (fun K hK => ?_)
          refine sqG Try.func40 #[.agg #[.int .i64 a0_0, .int .i64 a0_1]] ?_
          with_reducible refine (spec_RangeOk.calls a0_0 a0_1 true _ A20.out).mono ?_
          rintro e w34 ⟨rfl, hb⟩
          refine ⟨_, rfl, ?_⟩
          replace BK276 := sqb BK276 hb
          replace BK277 := sqb BK277 hb
          replace BK278 := sqb BK278 hb
          replace BK281 := sqb BK281 hb
          replace HB := sqs HB hb
          (try clear hb)
          refine hK.out _ _ sqz (fun hHeld => ?_)
          clear hK K
          refine sqnm ?_
          refine sqp HT_ 2 13 ?_
          refine sqp HT_ 3 14 ?_
          refine sqw HT_ HW_ 4 15 hHeld ?_
          refine sqo HT_ 5 16 (fun K hK => ?_)
          refine sqG Try.func40 #[.agg #[.int .i64 a1_0, .int .i64 a1_1]] ?_
          with_reducible refine (spec_RangeOk.calls a1_0 a1_1 true _ A22.out).mono ?_
          rintro e w35 ⟨rfl, hb⟩
          refine ⟨_, rfl, ?_⟩
          replace BK276 := sqb BK276 hb
          replace BK277 := sqb BK277 hb
          replace BK278 := sqb BK278 hb
          replace BK281 := sqb BK281 hb
          replace HB := sqs HB hb
          (try clear hb)
          refine hK.out _ _ sqz (fun hHeld => ?_)
          clear hK K
          refine sqnm ?_
          refine sqp HT_ 6 17 ?_
          refine sqp HT_ 7 18 ?_
          refine sqp HT_ 8 19 ?_
          refine sqw HT_ HW_ 9 20 hHeld ?_
          refine sqo HT_ 10 21 (fun K hK => ?_)
          refine sqG Try.func68 #[] ?_
          with_reducible refine (spec_l8None.calls  t284 t285 _ A24.out).mono ?_
          rintro e w36 ⟨rfl, hb⟩
          refine ⟨_, rfl, ?_⟩
          replace BK276 := sqb BK276 hb
          replace BK277 := sqb BK277 hb
          replace BK278 := sqb BK278 hb
          replace BK281 := sqb BK281 hb
          replace HB := sqs HB hb
          (try clear hb)
          refine hK.out _ _ sqz (fun hHeld => ?_)
          clear hK K
          refine sqnm ?_
          refine sqp HT_ 11 22 ?_
          refine sqp HT_ 12 23 ?_
          refine sqp HT_ 13 24 ?_
          refine sqw HT_ HW_ 14 25 hHeld ?_
          refine sqo HT_ 15 26 (fun K hK => ?_)
          refine sqG Try.func68 #[] ?_
          with_reducible refine (spec_l8None.calls  t286 t287 _ A31.out).mono ?_
          rintro e w37 ⟨rfl, hb⟩
          refine ⟨_, rfl, ?_⟩
          replace BK276 := sqb BK276 hb
          replace BK277 := sqb BK277 hb
          replace BK278 := sqb BK278 hb
          replace BK281 := sqb BK281 hb
          replace HB := sqs HB hb
          (try clear hb)
          refine hK.out _ _ sqz (fun hHeld => ?_)
          clear hK K
          refine sqnm ?_
          refine sqp HT_ 16 27 ?_
          refine sqp HT_ 17 28 ?_
          refine done_ (done_of HT_.out (by kernel_rfl)) ?_
          try go_wp2
          go_meet
          case rel => exact ⟨_, ((a1_0 == t286 && (a1_1 == t287))), (by first | rfl | (simp; done) | (simp [*]; done)), H', ⟨by first | omega | exact Nat.le_refl _⟩, sqk BK276, sqk BK277, sqk BK278, sqk BK281, sqh HB⟩
      · replace c23 := Bool.eq_false_iff.mpr c23
        subst c23
        have H1 : (spec_RangeWiden.j0 k l2 true a0_0 a0_1 t279 t280) = some (r1, r2) := by rw [if_neg (show ¬ (false = true) by decide)] at H; exact H
        clear H
        have H := H1
        clear H1
        have H' := Aside0.mk H
        clear H
        try go_wp2
        have n0_ : Aside0 (((w15.setCell ⟨gb281, 0, none⟩ (.int .i64 t279)).setCell ⟨gb281, 1, none⟩ (.int .i64 t280)).heap[gb276]? = some (.cells #[.int .i64 a0_0, .int .i64 a0_1] 27 (0, 0))) := ⟨by refine sqt ?_; refine blk_far ?_ NB276_281.out _; refine sqt ?_; refine blk_far ?_ NB276_281.out _; refine sqt ?_; exact BK276.out⟩
        have n1_ : Aside0 (((w15.setCell ⟨gb281, 0, none⟩ (.int .i64 t279)).setCell ⟨gb281, 1, none⟩ (.int .i64 t280)).heap[gb277]? = some (.cells #[.int .i64 a1_0, .int .i64 a1_1] 27 (0, 0))) := ⟨by refine sqt ?_; refine blk_far ?_ NB277_281.out _; refine sqt ?_; refine blk_far ?_ NB277_281.out _; refine sqt ?_; exact BK277.out⟩
        have n2_ : Aside0 (((w15.setCell ⟨gb281, 0, none⟩ (.int .i64 t279)).setCell ⟨gb281, 1, none⟩ (.int .i64 t280)).heap[gb278]? = some (.cells #[.int .i64 0, .int .i64 0] 27 (0, 0))) := ⟨by refine sqt ?_; refine blk_far ?_ NB278_281.out _; refine sqt ?_; refine blk_far ?_ NB278_281.out _; refine sqt ?_; exact BK278.out⟩
        have n3_ : Aside0 (((w15.setCell ⟨gb281, 0, none⟩ (.int .i64 t279)).setCell ⟨gb281, 1, none⟩ (.int .i64 t280)).heap[gb281]? = some (.cells #[.int .i64 t279, .int .i64 t280] 27 (0, 0))) := ⟨by refine sqt ?_; refine blk_put (cs := #[.int .i64 t279, .int .i64 0]) ?_ 1 _ rfl; refine sqt ?_; refine blk_put (cs := #[.int .i64 0, .int .i64 0]) ?_ 0 _ rfl; refine sqt ?_; exact BK281.out⟩
        have n4_ : Aside0 (Below w.heap.size w ((w15.setCell ⟨gb281, 0, none⟩ (.int .i64 t279)).setCell ⟨gb281, 1, none⟩ (.int .i64 t280))) := sqh HB
        (try clear BK276)
        (try clear BK277)
        (try clear BK278)
        (try clear BK281)
        (try clear HB)
        generalize ((w15.setCell ⟨gb281, 0, none⟩ (.int .i64 t279)).setCell ⟨gb281, 1, none⟩ (.int .i64 t280)) = w38 at n0_ n1_ n2_ n3_ n4_ ⊢
        have BK276 := n0_
        have BK277 := n1_
        have BK278 := n2_
        have BK281 := n3_
        have HB := n4_
        clear n0_ n1_ n2_ n3_ n4_
        replace BK276 := Aside0.mk (blk_drew BK276.out)
        replace BK277 := Aside0.mk (blk_drew BK277.out)
        replace BK278 := Aside0.mk (blk_drew BK278.out)
        replace BK281 := Aside0.mk (blk_drew BK281.out)
        replace HB := Aside0.mk (below_drew1 HB.out)
        refine start_ (n := 18) (S := fun w' => w'.cell? ⟨gb276, 0, none⟩ = some (.int .i64 a0_0) ∧ w'.cell? ⟨gb276, 1, none⟩ = some (.int .i64 a0_1) ∧ w'.cell? ⟨gb277, 0, none⟩ = some (.int .i64 a1_0) ∧ w'.cell? ⟨gb277, 1, none⟩ = some (.int .i64 a1_1)) (ds := []) #[false, false, false, false, false, false, false, false, false, false, false, false, false, false, false, false, false, false] (by kernel_rfl) rfl rfl ⟨(blk_cell BK276.out 0).trans rfl, (blk_cell BK276.out 1).trans rfl, (blk_cell BK277.out 0).trans rfl, (blk_cell BK277.out 1).trans rfl⟩ (fun hHeld => ?_); refine with_tabW spec_RangeWiden.tab2 spec_RangeWiden.bits2 (fun HT_ HW_ => ?_)
        generalize w38.drew = w39 at BK276 BK277 BK278 BK281 HB hHeld ⊢
        refine sqw HT_ HW_ 0 11 hHeld ?_
        refine sqo HT_ 1 12 (fun K hK => ?_)
        refine sqG Try.func40 #[.agg #[.int .i64 a0_0, .int .i64 a0_1]] ?_
        with_reducible refine (spec_RangeOk.calls a0_0 a0_1 true _ A20.out).mono ?_
        rintro e w40 ⟨rfl, hb⟩
        refine ⟨_, rfl, ?_⟩
        replace BK276 := sqb BK276 hb
        replace BK277 := sqb BK277 hb
        replace BK278 := sqb BK278 hb
        replace BK281 := sqb BK281 hb
        replace HB := sqs HB hb
        (try clear hb)
        refine hK.out _ _ sqz (fun hHeld => ?_)
        clear hK K
        refine sqnm ?_
        refine sqp HT_ 2 13 ?_
        refine sqp HT_ 3 14 ?_
        refine sqw HT_ HW_ 4 15 hHeld ?_
        refine sqo HT_ 5 16 (fun K hK => ?_)
        refine sqG Try.func40 #[.agg #[.int .i64 a1_0, .int .i64 a1_1]] ?_
        with_reducible refine (spec_RangeOk.calls a1_0 a1_1 false _ A22.out).mono ?_
        rintro e w41 ⟨rfl, hb⟩
        refine ⟨_, rfl, ?_⟩
        replace BK276 := sqb BK276 hb
        replace BK277 := sqb BK277 hb
        replace BK278 := sqb BK278 hb
        replace BK281 := sqb BK281 hb
        replace HB := sqs HB hb
        (try clear hb)
        refine hK.out _ _ sqz (fun hHeld => ?_)
        clear hK K
        refine sqnm ?_
        refine sqp HT_ 6 17 ?_
        refine sqp HT_ 7 18 ?_
        refine sqp HT_ 8 19 ?_
        refine sqpu HT_ 9 20 ?_
        refine sqpu HT_ 10 21 ?_
        refine sqpu HT_ 11 22 ?_
        refine sqp HT_ 12 23 ?_
        refine sqp HT_ 13 24 ?_
        refine sqpu HT_ 14 25 ?_
        refine sqpu HT_ 15 26 ?_
        refine sqpu HT_ 16 27 ?_
        refine sqp HT_ 17 28 ?_
        refine done_ (done_of HT_.out (by kernel_rfl)) ?_
        try go_wp2
        go_meet
        case rel => exact ⟨_, (true), (by first | rfl | (simp; done) | (simp [*]; done)), H', ⟨by first | omega | exact Nat.le_refl _⟩, sqk BK276, sqk BK277, sqk BK278, sqk BK281, sqh HB⟩
    · replace c21 := Bool.eq_false_iff.mpr c21
      subst c21
      have H1 : (spec_RangeWiden.j0 k l2 true a0_0 a0_1 t279 t280) = some (r1, r2) := by rw [if_neg (show ¬ (false = true) by decide)] at H; exact H
      clear H
      have H := H1
      clear H1
      have H' := Aside0.mk H
      clear H
      try go_wp2
      have n0_ : Aside0 (((w15.setCell ⟨gb281, 0, none⟩ (.int .i64 t279)).setCell ⟨gb281, 1, none⟩ (.int .i64 t280)).heap[gb276]? = some (.cells #[.int .i64 a0_0, .int .i64 a0_1] 27 (0, 0))) := ⟨by refine sqt ?_; refine blk_far ?_ NB276_281.out _; refine sqt ?_; refine blk_far ?_ NB276_281.out _; refine sqt ?_; exact BK276.out⟩
      have n1_ : Aside0 (((w15.setCell ⟨gb281, 0, none⟩ (.int .i64 t279)).setCell ⟨gb281, 1, none⟩ (.int .i64 t280)).heap[gb277]? = some (.cells #[.int .i64 a1_0, .int .i64 a1_1] 27 (0, 0))) := ⟨by refine sqt ?_; refine blk_far ?_ NB277_281.out _; refine sqt ?_; refine blk_far ?_ NB277_281.out _; refine sqt ?_; exact BK277.out⟩
      have n2_ : Aside0 (((w15.setCell ⟨gb281, 0, none⟩ (.int .i64 t279)).setCell ⟨gb281, 1, none⟩ (.int .i64 t280)).heap[gb278]? = some (.cells #[.int .i64 0, .int .i64 0] 27 (0, 0))) := ⟨by refine sqt ?_; refine blk_far ?_ NB278_281.out _; refine sqt ?_; refine blk_far ?_ NB278_281.out _; refine sqt ?_; exact BK278.out⟩
      have n3_ : Aside0 (((w15.setCell ⟨gb281, 0, none⟩ (.int .i64 t279)).setCell ⟨gb281, 1, none⟩ (.int .i64 t280)).heap[gb281]? = some (.cells #[.int .i64 t279, .int .i64 t280] 27 (0, 0))) := ⟨by refine sqt ?_; refine blk_put (cs := #[.int .i64 t279, .int .i64 0]) ?_ 1 _ rfl; refine sqt ?_; refine blk_put (cs := #[.int .i64 0, .int .i64 0]) ?_ 0 _ rfl; refine sqt ?_; exact BK281.out⟩
      have n4_ : Aside0 (Below w.heap.size w ((w15.setCell ⟨gb281, 0, none⟩ (.int .i64 t279)).setCell ⟨gb281, 1, none⟩ (.int .i64 t280))) := sqh HB
      (try clear BK276)
      (try clear BK277)
      (try clear BK278)
      (try clear BK281)
      (try clear HB)
      generalize ((w15.setCell ⟨gb281, 0, none⟩ (.int .i64 t279)).setCell ⟨gb281, 1, none⟩ (.int .i64 t280)) = w42 at n0_ n1_ n2_ n3_ n4_ ⊢
      have BK276 := n0_
      have BK277 := n1_
      have BK278 := n2_
      have BK281 := n3_
      have HB := n4_
      clear n0_ n1_ n2_ n3_ n4_
      replace BK276 := Aside0.mk (blk_drew BK276.out)
      replace BK277 := Aside0.mk (blk_drew BK277.out)
      replace BK278 := Aside0.mk (blk_drew BK278.out)
      replace BK281 := Aside0.mk (blk_drew BK281.out)
      replace HB := Aside0.mk (below_drew1 HB.out)
      refine start_ (n := 18) (S := fun w' => w'.cell? ⟨gb276, 0, none⟩ = some (.int .i64 a0_0) ∧ w'.cell? ⟨gb276, 1, none⟩ = some (.int .i64 a0_1)) (ds := []) #[false, false, false, false, false, false, false, false, false, false, false, false, false, false, false, false, false, false] (by kernel_rfl) rfl rfl ⟨(blk_cell BK276.out 0).trans rfl, (blk_cell BK276.out 1).trans rfl⟩ (fun hHeld => ?_); refine with_tabW spec_RangeWiden.tab2 spec_RangeWiden.bits2 (fun HT_ HW_ => ?_)
      generalize w42.drew = w43 at BK276 BK277 BK278 BK281 HB hHeld ⊢
      refine sqw HT_ HW_ 0 11 hHeld ?_
      refine sqo HT_ 1 12 (fun K hK => ?_)
      refine sqG Try.func40 #[.agg #[.int .i64 a0_0, .int .i64 a0_1]] ?_
      with_reducible refine (spec_RangeOk.calls a0_0 a0_1 false _ A20.out).mono ?_
      rintro e w44 ⟨rfl, hb⟩
      refine ⟨_, rfl, ?_⟩
      replace BK276 := sqb BK276 hb
      replace BK277 := sqb BK277 hb
      replace BK278 := sqb BK278 hb
      replace BK281 := sqb BK281 hb
      replace HB := sqs HB hb
      (try clear hb)
      refine hK.out _ _ sqz (fun hHeld => ?_)
      clear hK K
      refine sqnm ?_
      refine sqp HT_ 2 13 ?_
      refine sqp HT_ 3 14 ?_
      refine sqpu HT_ 4 15 ?_
      refine sqpu HT_ 5 16 ?_
      refine sqpu HT_ 6 17 ?_
      refine sqp HT_ 7 18 ?_
      refine sqp HT_ 8 19 ?_
      refine sqpu HT_ 9 20 ?_
      refine sqpu HT_ 10 21 ?_
      refine sqpu HT_ 11 22 ?_
      refine sqp HT_ 12 23 ?_
      refine sqp HT_ 13 24 ?_
      refine sqpu HT_ 14 25 ?_
      refine sqpu HT_ 15 26 ?_
      refine sqpu HT_ 16 27 ?_
      refine sqp HT_ 17 28 ?_
      refine done_ (done_of HT_.out (by kernel_rfl)) ?_
      try go_wp2
      go_meet
      case rel => exact ⟨_, (true), (by first | rfl | (simp; done) | (simp [*]; done)), H', ⟨by first | omega | exact Nat.le_refl _⟩, sqk BK276, sqk BK277, sqk BK278, sqk BK281, sqh HB⟩
  case rest =>
    clear HC5
    try clear c2
    obtain ⟨kq, x28_4, rfl, HA, HJ4, BK276, BK277, BK278, BK281, HB⟩ := hcut
    cases kq with
    | zero => exact absurd HA.out (by simp [spec_RangeWiden.j0])
    | succ kj4 =>
      have H := HA.out
      clear HA
      simp only [spec_RangeWiden.j0] at H
      by_cases c45 : x28_4 = true
      · subst c45
        have H1 : (some (t279, t280)) = some (r1, r2) := by rw [if_pos rfl] at H; exact H
        clear H
        have H := H1
        clear H1
        simp only [Option.some.injEq, Prod.mk.injEq] at H
        obtain ⟨rfl, rfl⟩ := H
        have hnb46 := NB281_276.out
        have hnc46 := NB276_281.out
        have hnb47 := NB281_277.out
        have hnc47 := NB277_281.out
        have hnb48 := NB281_278.out
        have hnc48 := NB278_281.out
        obtain ⟨hcz49_0, hcz49_1, hfz49_0, hfz49_1⟩ := sqc2 BK281
        have hnb50 := NB278_276.out
        have hnc50 := NB276_278.out
        have hnb51 := NB278_277.out
        have hnc51 := NB277_278.out
        obtain ⟨hcz52_0, hcz52_1, hfz52_0, hfz52_1⟩ := sqc2 BK278
        go_wp2
        refine bodyPost_ret (results_cell_row rfl _ _ gb278 27 #[.int .i64 t279, .int .i64 t280] (0, 0) _ rfl (by refine sqt ?_; refine blk_put (cs := #[.int .i64 t279, .int .i64 0]) ?_ 1 _ rfl; refine sqt ?_; refine blk_put (cs := #[.int .i64 0, .int .i64 0]) ?_ 0 _ rfl; refine sqt ?_; exact BK278.out) Try.underlying27 rfl (by kernel_rfl)) rfl ?_
        exact sqe HB
      · replace c45 := Bool.eq_false_iff.mpr c45
        subst c45
        have H1 : (if t279 < a0_0 then ((spec_l8Down.f kj4 l2 t279).bind fun t288 => (if t280 > a0_1 then ((spec_l8Up.f kj4 l2 t280).bind fun t289 => (some (t288, t289))) else (some (t288, t280)))) else (if t280 > a0_1 then ((spec_l8Up.f kj4 l2 t280).bind fun t290 => (some (t279, t290))) else (some (t279, t280)))) = some (r1, r2) := by rw [if_neg (show ¬ (false = true) by decide)] at H; exact H
        clear H
        have H := H1
        clear H1
        by_cases c53 : t279 < a0_0
        · rw [if_pos c53] at H
          have c53b0 : decide (t279 < a0_0) = true := decide_eq_true c53
          clear c53
          replace H := Option.bind_eq_some_iff.mp H
          obtain ⟨t288, A540, H⟩ := H
          replace H : (if t280 > a0_1 then ((spec_l8Up.f kj4 l2 t280).bind fun t289 => (some (t288, t289))) else (some (t288, t280))) = some (r1, r2) := H
          have A54 := Aside0.mk A540
          clear A540
          by_cases c55 : t280 > a0_1
          · rw [if_pos c55] at H
            have c55b0 : decide (a0_1 < t280) = true := decide_eq_true c55
            clear c55
            replace H := Option.bind_eq_some_iff.mp H
            obtain ⟨t289, A560, H⟩ := H
            replace H : (some (t288, t289)) = some (r1, r2) := H
            have A56 := Aside0.mk A560
            clear A560
            simp only [Option.some.injEq, Prod.mk.injEq] at H
            obtain ⟨rfl, rfl⟩ := H
            have hnb57 := NB281_276.out
            have hnc57 := NB276_281.out
            have hnb58 := NB281_277.out
            have hnc58 := NB277_281.out
            have hnb59 := NB281_278.out
            have hnc59 := NB278_281.out
            obtain ⟨hcz60_0, hcz60_1, hfz60_0, hfz60_1⟩ := sqc2 BK281
            have hnb61 := NB276_277.out
            have hnc61 := NB277_276.out
            have hnb62 := NB276_278.out
            have hnc62 := NB278_276.out
            obtain ⟨hcz63_0, hcz63_1, hfz63_0, hfz63_1⟩ := sqc2 BK276
            go_wp2_with (first | ((with_reducible refine gate_callee (f := 101) rfl ?_); refine sqL (some 38) Try.func101 #[.slice A2 l2.length c2, .int .i64 t279] ?_; (with_reducible refine (spec_l8Down.calls kj4 _ _ l2 t279 t288 _ ?side1 ?side2 A54.out).mono ?_); (case side1 => repeat (first | exact (Kd.C_below HR2.out HB.out) | (with_reducible refine Kd.C_alloc ?_ _) | (with_reducible refine Kd.C_drewN ?_ _) | (with_reducible refine Kd.C_drew ?_))); (case side2 => exact HC2.out); rintro e w' ⟨rfl, ⟨nd, rfl⟩⟩; refine ⟨_, rfl, ?_⟩; (try (rw [drewN_self wc]; generalize hq_ : World.drewN wc _ = wc; replace BK276 := sqq BK276 hq_; replace BK277 := sqq BK277 hq_; replace BK278 := sqq BK278 hq_; replace BK281 := sqq BK281 hq_; replace HB := sqr HB hq_; clear hq_; obtain ⟨hqz1_0, hqz1_1, hqf1_0, hqf1_1⟩ := sqc2 BK276; obtain ⟨hqz2_0, hqz2_1, hqf2_0, hqf2_1⟩ := sqc2 BK277; obtain ⟨hqz3_0, hqz3_1, hqf3_0, hqf3_1⟩ := sqc2 BK278; obtain ⟨hqz4_0, hqz4_1, hqf4_0, hqf4_1⟩ := sqc2 BK281))) | ((with_reducible refine gate_callee (f := 102) rfl ?_); refine sqL (some 48) Try.func102 #[.slice A2 l2.length c2, .int .i64 t280] ?_; (with_reducible refine (spec_l8Up.calls kj4 _ _ l2 t280 t289 _ ?side1 ?side2 A56.out).mono ?_); (case side1 => exact Kd.C_below HR2.out (by repeat (first | (with_reducible first | exact HB.out | apply below_alloc | apply pw_below_drewN | apply below_drew1 | refine below_set ?_ GE276.out | refine below_set ?_ GE277.out | refine below_set ?_ GE278.out | refine below_set ?_ GE281.out) | exact HB.out))); (case side2 => exact HC2.out); rintro e w' ⟨rfl, ⟨nd, rfl⟩⟩; refine ⟨_, rfl, ?_⟩; have hnb64 := NB278_277.out; have hnc64 := NB277_278.out; obtain ⟨hcz65_0, hcz65_1, hfz65_0, hfz65_1⟩ := sqc2 BK278))
            refine bodyPost_ret (results_cell_row rfl _ _ gb278 27 #[.int .i64 t288, .int .i64 t289] (0, 0) _ rfl (by refine sqt ?_; refine blk_put (cs := #[.int .i64 t288, .int .i64 0]) ?_ 1 _ rfl; refine sqt ?_; refine blk_put (cs := #[.int .i64 0, .int .i64 0]) ?_ 0 _ rfl; refine sqt ?_; refine blk_far ?_ NB278_281.out _; refine sqt ?_; refine blk_far ?_ NB278_281.out _; refine sqt ?_; exact BK278.out) Try.underlying27 rfl (by kernel_rfl)) rfl ?_
            exact sqe HB
          · rw [if_neg c55] at H
            have c55b0 : decide (a0_1 < t280) = false := decide_eq_false c55
            clear c55
            simp only [Option.some.injEq, Prod.mk.injEq] at H
            obtain ⟨rfl, rfl⟩ := H
            have hnb66 := NB281_276.out
            have hnc66 := NB276_281.out
            have hnb67 := NB281_277.out
            have hnc67 := NB277_281.out
            have hnb68 := NB281_278.out
            have hnc68 := NB278_281.out
            obtain ⟨hcz69_0, hcz69_1, hfz69_0, hfz69_1⟩ := sqc2 BK281
            have hnb70 := NB276_277.out
            have hnc70 := NB277_276.out
            have hnb71 := NB276_278.out
            have hnc71 := NB278_276.out
            obtain ⟨hcz72_0, hcz72_1, hfz72_0, hfz72_1⟩ := sqc2 BK276
            go_wp2_with (first | ((with_reducible refine gate_callee (f := 101) rfl ?_); refine sqL (some 38) Try.func101 #[.slice A2 l2.length c2, .int .i64 t279] ?_; (with_reducible refine (spec_l8Down.calls kj4 _ _ l2 t279 t288 _ ?side1 ?side2 A54.out).mono ?_); (case side1 => repeat (first | exact (Kd.C_below HR2.out HB.out) | (with_reducible refine Kd.C_alloc ?_ _) | (with_reducible refine Kd.C_drewN ?_ _) | (with_reducible refine Kd.C_drew ?_))); (case side2 => exact HC2.out); rintro e w' ⟨rfl, ⟨nd, rfl⟩⟩; refine ⟨_, rfl, ?_⟩; (try (rw [drewN_self wc]; generalize hq_ : World.drewN wc _ = wc; replace BK276 := sqq BK276 hq_; replace BK277 := sqq BK277 hq_; replace BK278 := sqq BK278 hq_; replace BK281 := sqq BK281 hq_; replace HB := sqr HB hq_; clear hq_; obtain ⟨hqz5_0, hqz5_1, hqf5_0, hqf5_1⟩ := sqc2 BK276; obtain ⟨hqz6_0, hqz6_1, hqf6_0, hqf6_1⟩ := sqc2 BK277; obtain ⟨hqz7_0, hqz7_1, hqf7_0, hqf7_1⟩ := sqc2 BK278; obtain ⟨hqz8_0, hqz8_1, hqf8_0, hqf8_1⟩ := sqc2 BK281)); have hnb73 := NB278_277.out; have hnc73 := NB277_278.out; obtain ⟨hcz74_0, hcz74_1, hfz74_0, hfz74_1⟩ := sqc2 BK278))
            refine bodyPost_ret (results_cell_row rfl _ _ gb278 27 #[.int .i64 t288, .int .i64 t280] (0, 0) _ rfl (by refine sqt ?_; refine blk_put (cs := #[.int .i64 t288, .int .i64 0]) ?_ 1 _ rfl; refine sqt ?_; refine blk_put (cs := #[.int .i64 0, .int .i64 0]) ?_ 0 _ rfl; refine sqt ?_; refine blk_far ?_ NB278_281.out _; refine sqt ?_; exact BK278.out) Try.underlying27 rfl (by kernel_rfl)) rfl ?_
            exact sqe HB
        · rw [if_neg c53] at H
          have c53b0 : decide (t279 < a0_0) = false := decide_eq_false c53
          clear c53
          by_cases c75 : t280 > a0_1
          · rw [if_pos c75] at H
            have c75b0 : decide (a0_1 < t280) = true := decide_eq_true c75
            clear c75
            replace H := Option.bind_eq_some_iff.mp H
            obtain ⟨t290, A760, H⟩ := H
            replace H : (some (t279, t290)) = some (r1, r2) := H
            have A76 := Aside0.mk A760
            clear A760
            simp only [Option.some.injEq, Prod.mk.injEq] at H
            obtain ⟨rfl, rfl⟩ := H
            have hnb77 := NB281_276.out
            have hnc77 := NB276_281.out
            have hnb78 := NB281_277.out
            have hnc78 := NB277_281.out
            have hnb79 := NB281_278.out
            have hnc79 := NB278_281.out
            obtain ⟨hcz80_0, hcz80_1, hfz80_0, hfz80_1⟩ := sqc2 BK281
            have hnb81 := NB276_277.out
            have hnc81 := NB277_276.out
            have hnb82 := NB276_278.out
            have hnc82 := NB278_276.out
            obtain ⟨hcz83_0, hcz83_1, hfz83_0, hfz83_1⟩ := sqc2 BK276
            go_wp2_with (first | ((with_reducible refine gate_callee (f := 102) rfl ?_); refine sqL (some 48) Try.func102 #[.slice A2 l2.length c2, .int .i64 t280] ?_; (with_reducible refine (spec_l8Up.calls kj4 _ _ l2 t280 t290 _ ?side1 ?side2 A76.out).mono ?_); (case side1 => repeat (first | exact (Kd.C_below HR2.out HB.out) | (with_reducible refine Kd.C_alloc ?_ _) | (with_reducible refine Kd.C_drewN ?_ _) | (with_reducible refine Kd.C_drew ?_))); (case side2 => exact HC2.out); rintro e w' ⟨rfl, ⟨nd, rfl⟩⟩; refine ⟨_, rfl, ?_⟩; (try (rw [drewN_self wc]; generalize hq_ : World.drewN wc _ = wc; replace BK276 := sqq BK276 hq_; replace BK277 := sqq BK277 hq_; replace BK278 := sqq BK278 hq_; replace BK281 := sqq BK281 hq_; replace HB := sqr HB hq_; clear hq_; obtain ⟨hqz9_0, hqz9_1, hqf9_0, hqf9_1⟩ := sqc2 BK276; obtain ⟨hqz10_0, hqz10_1, hqf10_0, hqf10_1⟩ := sqc2 BK277; obtain ⟨hqz11_0, hqz11_1, hqf11_0, hqf11_1⟩ := sqc2 BK278; obtain ⟨hqz12_0, hqz12_1, hqf12_0, hqf12_1⟩ := sqc2 BK281)); have hnb84 := NB278_277.out; have hnc84 := NB277_278.out; obtain ⟨hcz85_0, hcz85_1, hfz85_0, hfz85_1⟩ := sqc2 BK278))
            refine bodyPost_ret (results_cell_row rfl _ _ gb278 27 #[.int .i64 t279, .int .i64 t290] (0, 0) _ rfl (by refine sqt ?_; refine blk_put (cs := #[.int .i64 t279, .int .i64 0]) ?_ 1 _ rfl; refine sqt ?_; refine blk_put (cs := #[.int .i64 0, .int .i64 0]) ?_ 0 _ rfl; refine sqt ?_; refine blk_far ?_ NB278_281.out _; refine sqt ?_; exact BK278.out) Try.underlying27 rfl (by kernel_rfl)) rfl ?_
            exact sqe HB
          · rw [if_neg c75] at H
            have c75b0 : decide (a0_1 < t280) = false := decide_eq_false c75
            clear c75
            simp only [Option.some.injEq, Prod.mk.injEq] at H
            obtain ⟨rfl, rfl⟩ := H
            have hnb86 := NB281_276.out
            have hnc86 := NB276_281.out
            have hnb87 := NB281_277.out
            have hnc87 := NB277_281.out
            have hnb88 := NB281_278.out
            have hnc88 := NB278_281.out
            obtain ⟨hcz89_0, hcz89_1, hfz89_0, hfz89_1⟩ := sqc2 BK281
            have hnb90 := NB276_277.out
            have hnc90 := NB277_276.out
            have hnb91 := NB276_278.out
            have hnc91 := NB278_276.out
            obtain ⟨hcz92_0, hcz92_1, hfz92_0, hfz92_1⟩ := sqc2 BK276
            have hnb93 := NB278_277.out
            have hnc93 := NB277_278.out
            obtain ⟨hcz94_0, hcz94_1, hfz94_0, hfz94_1⟩ := sqc2 BK278
            go_wp2
            refine bodyPost_ret (results_cell_row rfl _ _ gb278 27 #[.int .i64 t279, .int .i64 t280] (0, 0) _ rfl (by refine sqt ?_; refine blk_put (cs := #[.int .i64 t279, .int .i64 0]) ?_ 1 _ rfl; refine sqt ?_; refine blk_put (cs := #[.int .i64 0, .int .i64 0]) ?_ 0 _ rfl; refine sqt ?_; exact BK278.out) Try.underlying27 rfl (by kernel_rfl)) rfl ?_
            exact sqe HB

end Go.Proofs.Ytmdcgkkkfncieaa.PFnRangeLattice
