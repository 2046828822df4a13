/- Functions of the program as plain Lean functions, and that calls of them come to what these tell. Conditions: those in each law. -/
import Derived.Test.YtmdcgkkkfncieaaSq
import Derived.Test.YtmdcgkkkfncieaaDFnRangeStill
import Derived.Test.YtmdcgkkkfncieaaQFnRangeStillx0
import Derived.Test.YtmdcgkkkfncieaaQFnRangeStillx1
import Derived.Test.YtmdcgkkkfncieaaQFnRangeStillx2
import Derived.Test.YtmdcgkkkfncieaaQFnRangeStillx3
import Derived.Test.YtmdcgkkkfncieaaQFnRangeStillx11
import Derived.Test.YtmdcgkkkfncieaaQFnRangeStillx12
namespace Go.Proofs.Ytmdcgkkkfncieaa.PFnRangeStill
open Go.RowKit Go.Proofs.Ytmdcgkkkfncieaa.Sq Go.Proofs.YtmdcgkkkfncieaaW.PrintWords Go.Proofs.YtmdcgkkkfncieaaW.PrintLast Go.Proofs.YtmdcgkkkfncieaaW.PrintMore
attribute [local go_sem] max2_int min2_int max_two min_two max_three min_three max_four min_four   -- for this text's walks alone
set_option linter.unusedVariables false
set_option linter.unusedSimpArgs false

attribute [local go_sem high] eqA27
/-! ### spec_RangeWiden: function 44 -/
theorem spec_RangeWiden.mono_l : ∀ k, (∀ y0 y1 y2 y3 y4 y5, LeO (spec_RangeWiden.j0 k y0 y1 y2 y3 y4 y5) (spec_RangeWiden.j0 (k + 1) y0 y1 y2 y3 y4 y5))
  | 0 => fun _ _ _ _ _ _ r h => by simp [spec_RangeWiden.j0] at h
  | k + 1 => by
    have ih0 := spec_RangeWiden.mono_l k
    · intro y0 y1 y2 y3 y4 y5
      unfold spec_RangeWiden.j0
      repeat' first
      | (with_reducible exact ih0 _ _ _ _ _ _)
      | (with_reducible exact spec_RangeJoin.mono _ _ _ _ _)
      | (with_reducible exact spec_l8Down.mono _ _ _)
      | (with_reducible exact spec_l8Up.mono _ _ _)
      | (with_reducible exact LeO.refl _)
      | (with_reducible exact LeO.none _)
      | (with_reducible refine LeO.ite ?_ ?_)
      | (with_reducible refine LeO.bind ?_ (fun _ => ?_))
      | exact ih0 _ _ _ _ _ _
      | exact spec_RangeJoin.mono _ _ _ _ _
      | exact spec_l8Down.mono _ _ _
      | exact spec_l8Up.mono _ _ _
      | exact LeO.none _
      | refine LeO.ite ?_ ?_
      | refine LeO.bind ?_ (fun _ => ?_)
theorem spec_RangeWiden.mono : ∀ a0 a1 a2 a3 a4 k, LeO (spec_RangeWiden.f k a0 a1 a2 a3 a4) (spec_RangeWiden.f (k + 1) a0 a1 a2 a3 a4) := by
  intro a0 a1 a2 a3 a4 k
  have ih0 := spec_RangeWiden.mono_l k
  unfold spec_RangeWiden.f
  repeat' first
      | (with_reducible exact ih0 _ _ _ _ _ _)
      | (with_reducible exact spec_RangeJoin.mono _ _ _ _ _)
      | (with_reducible exact spec_l8Down.mono _ _ _)
      | (with_reducible exact spec_l8Up.mono _ _ _)
      | (with_reducible exact LeO.refl _)
      | (with_reducible exact LeO.none _)
      | (with_reducible refine LeO.ite ?_ ?_)
      | (with_reducible refine LeO.bind ?_ (fun _ => ?_))
      | exact ih0 _ _ _ _ _ _
      | exact spec_RangeJoin.mono _ _ _ _ _
      | exact spec_l8Down.mono _ _ _
      | exact spec_l8Up.mono _ _ _
      | exact LeO.none _
      | refine LeO.ite ?_ ?_
      | refine LeO.bind ?_ (fun _ => ?_)
def spec_RangeWiden.T2 : Bool × List (List Nat × List Nat) := (true, [([], []), ([0], [0]), ([1], [1]), ([2, 1], [2]), ([3], [3]), ([4, 3, 3], [3, 4]), ([5, 3], [3, 5]), ([3, 6], [3, 6]), ([7, 5], [7]), ([8], [8]), ([8, 8], [8]), ([9, 10, 8], [8, 9, 10]), ([8, 11], [8, 11]), ([12, 10], [12]), ([13], [13]), ([13, 13], [13]), ([14, 15, 13], [13, 14, 15]), ([13, 16], [13, 16])])
def spec_RangeWiden.B2 : List Nat := [0, 1, 3, 7, 15, 31, 63, 127, 255, 511, 511, 2047, 4095, 8191, 16383, 16383, 65535, 131071]
theorem spec_RangeWiden.tab2 : rtab .any (opsOf Try.f44 2) = spec_RangeWiden.T2 := by kernel_rfl
theorem spec_RangeWiden.bits2 : waitsOk spec_RangeWiden.T2.2 spec_RangeWiden.B2 = true := by kernel_rfl
set_option maxHeartbeats 8000000 in
set_option maxRecDepth 100000 in
theorem spec_RangeWiden.calls (k : Nat) (a0_0 : Int) (a0_1 : Int) (a1_0 : Int) (a1_1 : Int) (A2 : Option Addr) (c2 : Nat) (l2 : List Int) (r1 : Int) (r2 : Int) (w : World) (hr2 : Kd.C (Kd.int .i64) w A2 l2.length l2) (hc2 : l2.length ≤ c2) (h : spec_RangeWiden.f k a0_0 a0_1 a1_0 a1_1 l2 = some (r1, r2)) :
    Calls Try.prog 44 #[.agg #[.int .i64 a0_0, .int .i64 a0_1], .agg #[.int .i64 a1_0, .int .i64 a1_1], .slice A2 l2.length c2] w fun e w' => e = .returned (.agg #[.int .i64 r1, .int .i64 r2]) ∧ Below w.heap.size w w' := by
  have hu27 := Try.underlying27
  have HR2 := Aside0.mk hr2
  have HC2 := Aside0.mk hc2
  clear hr2 hc2
  have HB := Aside0.mk (Below.refl w.heap.size w)
  have H : ((spec_RangeJoin.f k a0_0 a0_1 a1_0 a1_1).bind fun bt286 => ((spec_RangeOk.f a0_0 a0_1).bind fun t289 => (if t289 = true then ((spec_RangeOk.f a1_0 a1_1).bind fun t290 => (if t290 = true then ((spec_l8None.f).bind fun bt291 => (if (a0_0 == bt291.1 && (a0_1 == bt291.2)) = true then (spec_RangeWiden.j0 k l2 true a0_0 a0_1 bt286.1 bt286.2) else ((spec_l8None.f).bind fun bt293 => (spec_RangeWiden.j0 k l2 (a1_0 == bt293.1 && (a1_1 == bt293.2)) a0_0 a0_1 bt286.1 bt286.2)))) else (spec_RangeWiden.j0 k l2 true a0_0 a0_1 bt286.1 bt286.2))) else (spec_RangeWiden.j0 k l2 true a0_0 a0_1 bt286.1 bt286.2)))) = some (r1, r2) := h
  clear h
  replace H := Option.bind_eq_some_iff.mp H
  obtain ⟨⟨t286, t287⟩, A40, H⟩ := H
  replace H : ((spec_RangeOk.f a0_0 a0_1).bind fun t289 => (if t289 = true then ((spec_RangeOk.f a1_0 a1_1).bind fun t290 => (if t290 = true then ((spec_l8None.f).bind fun bt291 => (if (a0_0 == bt291.1 && (a0_1 == bt291.2)) = true then (spec_RangeWiden.j0 k l2 true a0_0 a0_1 t286 t287) else ((spec_l8None.f).bind fun bt293 => (spec_RangeWiden.j0 k l2 (a1_0 == bt293.1 && (a1_1 == bt293.2)) a0_0 a0_1 t286 t287)))) else (spec_RangeWiden.j0 k l2 true a0_0 a0_1 t286 t287))) else (spec_RangeWiden.j0 k l2 true a0_0 a0_1 t286 t287))) = some (r1, r2) := H
  have A4 := Aside0.mk A40
  clear A40
  have HC5 := Aside0.mk H
  clear H
  go_enter Try.func44, Try.ntmps44
  go_upto_region 2 with (first | ((with_reducible refine gate_dst (N := 3) rfl ?_); refine sqx 3 #[.int .i64 a0_0, .int .i64 a0_1] 27 ?_; intro gb283 hg w6 hbox hb; have BK283 := Aside0.mk (hbox); have GW283 := sqg HB hg; have GE283 := sqg HB hg; replace HB := sqs HB hb; clear hb hbox hg) | ((with_reducible refine gate_dst (N := 4) rfl ?_); refine sqx 4 #[.int .i64 a1_0, .int .i64 a1_1] 27 ?_; intro gb284 hg w7 hbox hb; have BK284 := Aside0.mk (hbox); have GW284 := sqg HB hg; have GE284 := sqg HB hg; have NB283_284 := sqn BK283 hg; have NB284_283 := sqm BK283 hg; replace BK283 := sqb BK283 hb; replace HB := sqs HB hb; clear hb hbox hg) | ((with_reducible refine gate_dst (N := 6) rfl ?_); refine sqx 6 #[.int .i64 0, .int .i64 0] 27 ?_; intro gb285 hg w8 hbox hb; have BK285 := Aside0.mk (hbox); have GW285 := sqg HB hg; have GE285 := sqg HB hg; have NB283_285 := sqn BK283 hg; have NB285_283 := sqm BK283 hg; have NB284_285 := sqn BK284 hg; have NB285_284 := sqm BK284 hg; replace BK283 := sqb BK283 hb; replace BK284 := sqb BK284 hb; replace HB := sqs HB hb; clear hb hbox hg; have hnb9 := NB283_284.out; have hnc9 := NB284_283.out; have hnb10 := NB283_285.out; have hnc10 := NB285_283.out; obtain ⟨hcz11_0, hcz11_1, hfz11_0, hfz11_1⟩ := sqc2 BK283; have hnb12 := NB284_285.out; have hnc12 := NB285_284.out; obtain ⟨hcz13_0, hcz13_1, hfz13_0, hfz13_1⟩ := sqc2 BK284) | ((with_reducible refine gate_callee (f := 48) rfl ?_); refine sqL (some 10) Try.func48 #[.agg #[.int .i64 a0_0, .int .i64 a0_1], .agg #[.int .i64 a1_0, .int .i64 a1_1]] ?_; (with_reducible refine (spec_RangeJoin.calls k a0_0 a0_1 a1_0 a1_1 t286 t287 _ A4.out).mono ?_); rintro e w14 ⟨rfl, hb⟩; refine ⟨_, rfl, ?_⟩; replace BK283 := sqb BK283 hb; replace BK284 := sqb BK284 hb; replace BK285 := sqb BK285 hb; replace HB := sqs HB hb; (try clear hb)) | ((with_reducible refine gate_dst (N := 7) rfl ?_); refine sqx 7 #[.int .i64 0, .int .i64 0] 27 ?_; intro gb288 hg w15 hbox hb; have BK288 := Aside0.mk (hbox); have GW288 := sqg HB hg; have GE288 := sqg HB hg; have NB283_288 := sqn BK283 hg; have NB288_283 := sqm BK283 hg; have NB284_288 := sqn BK284 hg; have NB288_284 := sqm BK284 hg; have NB285_288 := sqn BK285 hg; have NB288_285 := sqm BK285 hg; replace BK283 := sqb BK283 hb; replace BK284 := sqb BK284 hb; replace BK285 := sqb BK285 hb; replace HB := sqs HB hb; clear hb hbox hg; have hnb16 := NB288_283.out; have hnc16 := NB283_288.out; have hnb17 := NB288_284.out; have hnc17 := NB284_288.out; have hnb18 := NB288_285.out; have hnc18 := NB285_288.out; obtain ⟨hcz19_0, hcz19_1, hfz19_0, hfz19_1⟩ := sqc2 BK288))
  (try simp only [Act.put, List.setIfInBounds_toArray, List.set_cons_zero, List.set_cons_succ])
  go_cut [28] (fun v28 wc => ∃ (kq : Nat) (x28_4 : Bool), v28 = .bool x28_4 ∧ Aside0 (spec_RangeWiden.j0 kq l2 x28_4 a0_0 a0_1 t286 t287 = some (r1, r2)) ∧ Aside0 (kq ≤ k) ∧ Aside0 (wc.heap[gb283]? = some (.cells #[.int .i64 a0_0, .int .i64 a0_1] 27 (0, 0))) ∧ Aside0 (wc.heap[gb284]? = some (.cells #[.int .i64 a1_0, .int .i64 a1_1] 27 (0, 0))) ∧ Aside0 (wc.heap[gb285]? = some (.cells #[.int .i64 0, .int .i64 0] 27 (0, 0))) ∧ Aside0 (wc.heap[gb288]? = some (.cells #[.int .i64 t286, .int .i64 t287] 27 (0, 0))) ∧ Aside0 (Below w.heap.size w wc))
  case first =>
    have H := HC5.out
    clear HC5
    replace H := Option.bind_eq_some_iff.mp H
    obtain ⟨t289, A200, H⟩ := H
    replace H : (if t289 = true then ((spec_RangeOk.f a1_0 a1_1).bind fun t290 => (if t290 = true then ((spec_l8None.f).bind fun bt291 => (if (a0_0 == bt291.1 && (a0_1 == bt291.2)) = true then (spec_RangeWiden.j0 k l2 true a0_0 a0_1 t286 t287) else ((spec_l8None.f).bind fun bt293 => (spec_RangeWiden.j0 k l2 (a1_0 == bt293.1 && (a1_1 == bt293.2)) a0_0 a0_1 t286 t287)))) else (spec_RangeWiden.j0 k l2 true a0_0 a0_1 t286 t287))) else (spec_RangeWiden.j0 k l2 true a0_0 a0_1 t286 t287)) = some (r1, r2) := H
    have A20 := Aside0.mk A200
    clear A200
    by_cases c21 : t289 = true
    · subst c21
      have H1 : ((spec_RangeOk.f a1_0 a1_1).bind fun t290 => (if t290 = true then ((spec_l8None.f).bind fun bt291 => (if (a0_0 == bt291.1 && (a0_1 == bt291.2)) = true then (spec_RangeWiden.j0 k l2 true a0_0 a0_1 t286 t287) else ((spec_l8None.f).bind fun bt293 => (spec_RangeWiden.j0 k l2 (a1_0 == bt293.1 && (a1_1 == bt293.2)) a0_0 a0_1 t286 t287)))) else (spec_RangeWiden.j0 k l2 true a0_0 a0_1 t286 t287))) = some (r1, r2) := by rw [if_pos rfl] at H; exact H
      clear H
      have H := H1
      clear H1
      replace H := Option.bind_eq_some_iff.mp H
      obtain ⟨t290, A220, H⟩ := H
      replace H : (if t290 = true then ((spec_l8None.f).bind fun bt291 => (if (a0_0 == bt291.1 && (a0_1 == bt291.2)) = true then (spec_RangeWiden.j0 k l2 true a0_0 a0_1 t286 t287) else ((spec_l8None.f).bind fun bt293 => (spec_RangeWiden.j0 k l2 (a1_0 == bt293.1 && (a1_1 == bt293.2)) a0_0 a0_1 t286 t287)))) else (spec_RangeWiden.j0 k l2 true a0_0 a0_1 t286 t287)) = some (r1, r2) := H
      have A22 := Aside0.mk A220
      clear A220
      by_cases c23 : t290 = true
      · subst c23
        have H1 : ((spec_l8None.f).bind fun bt291 => (if (a0_0 == bt291.1 && (a0_1 == bt291.2)) = true then (spec_RangeWiden.j0 k l2 true a0_0 a0_1 t286 t287) else ((spec_l8None.f).bind fun bt293 => (spec_RangeWiden.j0 k l2 (a1_0 == bt293.1 && (a1_1 == bt293.2)) a0_0 a0_1 t286 t287)))) = some (r1, r2) := by rw [if_pos rfl] at H; exact H
        clear H
        have H := H1
        clear H1
        replace H := Option.bind_eq_some_iff.mp H
        obtain ⟨⟨t291, t292⟩, A240, H⟩ := H
        replace H : (if (a0_0 == t291 && (a0_1 == t292)) = true then (spec_RangeWiden.j0 k l2 true a0_0 a0_1 t286 t287) else ((spec_l8None.f).bind fun bt293 => (spec_RangeWiden.j0 k l2 (a1_0 == bt293.1 && (a1_1 == bt293.2)) a0_0 a0_1 t286 t287))) = some (r1, r2) := H
        have A24 := Aside0.mk A240
        clear A240
        by_cases c25 : (a0_0 == t291 && (a0_1 == t292)) = true
        · rw [if_pos c25] at H
          have c25b0 : (a0_0 == t291 && (a0_1 == t292)) = true := c25
          (try (have c25b1 : decide (a0_0 = t291 && (a0_1 == t292)) = true := by simpa using c25))
          (try (have c25b2 : (a0_0 == t291 && (a0_1 == t292)) = true := by simpa using c25))
          clear c25
          (first | rw [c25b0] | (simp only [i64_w, i32_w]; rw [c25b0]) | skip)
          have H' := Aside0.mk H
          clear H
          try go_wp2
          have n0_ : Aside0 (((w15.setCell ⟨gb288, 0, none⟩ (.int .i64 t286)).setCell ⟨gb288, 1, none⟩ (.int .i64 t287)).heap[gb283]? = some (.cells #[.int .i64 a0_0, .int .i64 a0_1] 27 (0, 0))) := ⟨by refine sqt ?_; refine blk_far ?_ NB283_288.out _; refine sqt ?_; refine blk_far ?_ NB283_288.out _; refine sqt ?_; exact BK283.out⟩
          have n1_ : Aside0 (((w15.setCell ⟨gb288, 0, none⟩ (.int .i64 t286)).setCell ⟨gb288, 1, none⟩ (.int .i64 t287)).heap[gb284]? = some (.cells #[.int .i64 a1_0, .int .i64 a1_1] 27 (0, 0))) := ⟨by refine sqt ?_; refine blk_far ?_ NB284_288.out _; refine sqt ?_; refine blk_far ?_ NB284_288.out _; refine sqt ?_; exact BK284.out⟩
          have n2_ : Aside0 (((w15.setCell ⟨gb288, 0, none⟩ (.int .i64 t286)).setCell ⟨gb288, 1, none⟩ (.int .i64 t287)).heap[gb285]? = some (.cells #[.int .i64 0, .int .i64 0] 27 (0, 0))) := ⟨by refine sqt ?_; refine blk_far ?_ NB285_288.out _; refine sqt ?_; refine blk_far ?_ NB285_288.out _; refine sqt ?_; exact BK285.out⟩
          have n3_ : Aside0 (((w15.setCell ⟨gb288, 0, none⟩ (.int .i64 t286)).setCell ⟨gb288, 1, none⟩ (.int .i64 t287)).heap[gb288]? = some (.cells #[.int .i64 t286, .int .i64 t287] 27 (0, 0))) := ⟨by refine sqt ?_; refine blk_put (cs := #[.int .i64 t286, .int .i64 0]) ?_ 1 _ rfl; refine sqt ?_; refine blk_put (cs := #[.int .i64 0, .int .i64 0]) ?_ 0 _ rfl; refine sqt ?_; exact BK288.out⟩
          have n4_ : Aside0 (Below w.heap.size w ((w15.setCell ⟨gb288, 0, none⟩ (.int .i64 t286)).setCell ⟨gb288, 1, none⟩ (.int .i64 t287))) := sqh HB
          (try clear BK283)
          (try clear BK284)
          (try clear BK285)
          (try clear BK288)
          (try clear HB)
          generalize ((w15.setCell ⟨gb288, 0, none⟩ (.int .i64 t286)).setCell ⟨gb288, 1, none⟩ (.int .i64 t287)) = w26 at n0_ n1_ n2_ n3_ n4_ ⊢
          have BK283 := n0_
          have BK284 := n1_
          have BK285 := n2_
          have BK288 := n3_
          have HB := n4_
          clear n0_ n1_ n2_ n3_ n4_
          replace BK283 := Aside0.mk (blk_drew BK283.out)
          replace BK284 := Aside0.mk (blk_drew BK284.out)
          replace BK285 := Aside0.mk (blk_drew BK285.out)
          replace BK288 := Aside0.mk (blk_drew BK288.out)
          replace HB := Aside0.mk (below_drew1 HB.out)
          refine start_ (n := 18) (S := fun w' => w'.cell? ⟨gb283, 0, none⟩ = some (.int .i64 a0_0) ∧ w'.cell? ⟨gb283, 1, none⟩ = some (.int .i64 a0_1) ∧ w'.cell? ⟨gb284, 0, none⟩ = some (.int .i64 a1_0) ∧ w'.cell? ⟨gb284, 1, none⟩ = some (.int .i64 a1_1)) (ds := []) #[false, false, false, false, false, false, false, false, false, false, false, false, false, false, false, false, false, false] (by kernel_rfl) rfl rfl ⟨(blk_cell BK283.out 0).trans rfl, (blk_cell BK283.out 1).trans rfl, (blk_cell BK284.out 0).trans rfl, (blk_cell BK284.out 1).trans rfl⟩ (fun hHeld => ?_); refine with_tabW spec_RangeWiden.tab2 spec_RangeWiden.bits2 (fun HT_ HW_ => ?_)
          generalize w26.drew = w27 at BK283 BK284 BK285 BK288 HB hHeld ⊢
          refine sqw HT_ HW_ 0 11 hHeld ?_
          refine sqo HT_ 1 12 (fun K hK => ?_)
          refine sqG Try.func40 #[.agg #[.int .i64 a0_0, .int .i64 a0_1]] ?_
          with_reducible refine (spec_RangeOk.calls a0_0 a0_1 true _ A20.out).mono ?_
          rintro e w28 ⟨rfl, hb⟩
          refine ⟨_, rfl, ?_⟩
          replace BK283 := sqb BK283 hb
          replace BK284 := sqb BK284 hb
          replace BK285 := sqb BK285 hb
          replace BK288 := sqb BK288 hb
          replace HB := sqs HB hb
          (try clear hb)
          refine hK.out _ _ sqz (fun hHeld => ?_)
          clear hK K
          refine sqnm ?_
          refine sqp HT_ 2 13 ?_
          refine sqp HT_ 3 14 ?_
          refine sqw HT_ HW_ 4 15 hHeld ?_
          refine sqo HT_ 5 16 (fun K hK => ?_)
          refine sqG Try.func40 #[.agg #[.int .i64 a1_0, .int .i64 a1_1]] ?_
          with_reducible refine (spec_RangeOk.calls a1_0 a1_1 true _ A22.out).mono ?_
          rintro e w29 ⟨rfl, hb⟩
          refine ⟨_, rfl, ?_⟩
          replace BK283 := sqb BK283 hb
          replace BK284 := sqb BK284 hb
          replace BK285 := sqb BK285 hb
          replace BK288 := sqb BK288 hb
          replace HB := sqs HB hb
          (try clear hb)
          refine hK.out _ _ sqz (fun hHeld => ?_)
          clear hK K
          refine sqnm ?_
          refine sqp HT_ 6 17 ?_
          refine sqp HT_ 7 18 ?_
          refine sqp HT_ 8 19 ?_
          refine sqw HT_ HW_ 9 20 hHeld ?_
          refine sqo HT_ 10 21 (fun K hK => ?_)
          refine sqG Try.func68 #[] ?_
          with_reducible refine (spec_l8None.calls  t291 t292 _ A24.out).mono ?_
          rintro e w30 ⟨rfl, hb⟩
          refine ⟨_, rfl, ?_⟩
          replace BK283 := sqb BK283 hb
          replace BK284 := sqb BK284 hb
          replace BK285 := sqb BK285 hb
          replace BK288 := sqb BK288 hb
          replace HB := sqs HB hb
          (try clear hb)
          refine hK.out _ _ sqz (fun hHeld => ?_)
          clear hK K
          refine sqnm ?_
          refine sqp HT_ 11 22 ?_
          refine sqp HT_ 12 23 ?_
          refine sqp HT_ 13 24 ?_
          refine sqpu HT_ 14 25 ?_
          refine sqpu HT_ 15 26 ?_
          refine sqpu HT_ 16 27 ?_
          refine sqp HT_ 17 28 ?_
          refine done_ (done_of HT_.out (by kernel_rfl)) ?_
          try go_wp2
          go_meet
          case rel => exact ⟨_, (true), (by first | rfl | (simp; done) | (simp [*]; done)), H', ⟨by first | omega | exact Nat.le_refl _⟩, sqk BK283, sqk BK284, sqk BK285, sqk BK288, sqh HB⟩
        · rw [if_neg c25] at H
          have c25b0 : (a0_0 == t291 && (a0_1 == t292)) = false := by simpa using c25
          (try (have c25b1 : decide (a0_0 = t291 && (a0_1 == t292)) = false := by simpa using c25))
          (try (have c25b2 : (a0_0 == t291 && (a0_1 == t292)) = false := by simpa using c25))
          (try (have c25b3 : ¬ (a0_0 = t291 && (a0_1 == t292)) := by simpa using c25))
          clear c25
          (first | rw [c25b0] | (simp only [i64_w, i32_w]; rw [c25b0]) | skip)
          replace H := Option.bind_eq_some_iff.mp H
          obtain ⟨⟨t293, t294⟩, A310, H⟩ := H
          replace H : (spec_RangeWiden.j0 k l2 (a1_0 == t293 && (a1_1 == t294)) a0_0 a0_1 t286 t287) = some (r1, r2) := H
          have A31 := Aside0.mk A310
          clear A310
          have H' := Aside0.mk H
          clear H
          try go_wp2
          have n0_ : Aside0 (((w15.setCell ⟨gb288, 0, none⟩ (.int .i64 t286)).setCell ⟨gb288, 1, none⟩ (.int .i64 t287)).heap[gb283]? = some (.cells #[.int .i64 a0_0, .int .i64 a0_1] 27 (0, 0))) := ⟨by refine sqt ?_; refine blk_far ?_ NB283_288.out _; refine sqt ?_; refine blk_far ?_ NB283_288.out _; refine sqt ?_; exact BK283.out⟩
          have n1_ : Aside0 (((w15.setCell ⟨gb288, 0, none⟩ (.int .i64 t286)).setCell ⟨gb288, 1, none⟩ (.int .i64 t287)).heap[gb284]? = some (.cells #[.int .i64 a1_0, .int .i64 a1_1] 27 (0, 0))) := ⟨by refine sqt ?_; refine blk_far ?_ NB284_288.out _; refine sqt ?_; refine blk_far ?_ NB284_288.out _; refine sqt ?_; exact BK284.out⟩
          have n2_ : Aside0 (((w15.setCell ⟨gb288, 0, none⟩ (.int .i64 t286)).setCell ⟨gb288, 1, none⟩ (.int .i64 t287)).heap[gb285]? = some (.cells #[.int .i64 0, .int .i64 0] 27 (0, 0))) := ⟨by refine sqt ?_; refine blk_far ?_ NB285_288.out _; refine sqt ?_; refine blk_far ?_ NB285_288.out _; refine sqt ?_; exact BK285.out⟩
          have n3_ : Aside0 (((w15.setCell ⟨gb288, 0, none⟩ (.int .i64 t286)).setCell ⟨gb288, 1, none⟩ (.int .i64 t287)).heap[gb288]? = some (.cells #[.int .i64 t286, .int .i64 t287] 27 (0, 0))) := ⟨by refine sqt ?_; refine blk_put (cs := #[.int .i64 t286, .int .i64 0]) ?_ 1 _ rfl; refine sqt ?_; refine blk_put (cs := #[.int .i64 0, .int .i64 0]) ?_ 0 _ rfl; refine sqt ?_; exact BK288.out⟩
          have n4_ : Aside0 (Below w.heap.size w ((w15.setCell ⟨gb288, 0, none⟩ (.int .i64 t286)).setCell ⟨gb288, 1, none⟩ (.int .i64 t287))) := sqh HB
          (try clear BK283)
          (try clear BK284)
          (try clear BK285)
          (try clear BK288)
          (try clear HB)
          generalize ((w15.setCell ⟨gb288, 0, none⟩ (.int .i64 t286)).setCell ⟨gb288, 1, none⟩ (.int .i64 t287)) = w32 at n0_ n1_ n2_ n3_ n4_ ⊢
          have BK283 := n0_
          have BK284 := n1_
          have BK285 := n2_
          have BK288 := n3_
          have HB := n4_
          clear n0_ n1_ n2_ n3_ n4_
          replace BK283 := Aside0.mk (blk_drew BK283.out)
          replace BK284 := Aside0.mk (blk_drew BK284.out)
          replace BK285 := Aside0.mk (blk_drew BK285.out)
          replace BK288 := Aside0.mk (blk_drew BK288.out)
          replace HB := Aside0.mk (below_drew1 HB.out)
          refine start_ (n := 18) (S := fun w' => w'.cell? ⟨gb283, 0, none⟩ = some (.int .i64 a0_0) ∧ w'.cell? ⟨gb283, 1, none⟩ = some (.int .i64 a0_1) ∧ w'.cell? ⟨gb284, 0, none⟩ = some (.int .i64 a1_0) ∧ w'.cell? ⟨gb284, 1, none⟩ = some (.int .i64 a1_1)) (ds := []) #[false, false, false, false, false, false, false, false, false, false, false, false, false, false, false, false, false, false] (by kernel_rfl) rfl rfl ⟨(blk_cell BK283.out 0).trans rfl, (blk_cell BK283.out 1).trans rfl, (blk_cell BK284.out 0).trans rfl, (blk_cell BK284.out 1).trans rfl⟩ (fun hHeld => ?_); refine with_tabW spec_RangeWiden.tab2 spec_RangeWiden.bits2 (fun HT_ HW_ => ?_)
          generalize w32.drew = w33 at BK283 BK284 BK285 BK288 HB hHeld ⊢
          refine sqw HT_ HW_ 0 11 hHeld ?_
          refine sqo HT_ 1 12 (fun K hK => ?_)
          refine sqG Try.func40 #[.agg #[.int .i64 a0_0, .int .i64 a0_1]] ?_
          with_reducible refine (spec_RangeOk.calls a0_0 a0_1 true _ A20.out).mono ?_
          rintro e w34 ⟨rfl, hb⟩
          refine ⟨_, rfl, ?_⟩
          replace BK283 := sqb BK283 hb
          replace BK284 := sqb BK284 hb
          replace BK285 := sqb BK285 hb
          replace BK288 := sqb BK288 hb
          replace HB := sqs HB hb
          (try clear hb)
          refine hK.out _ _ sqz (fun hHeld => ?_)
          clear hK K
          refine sqnm ?_
          refine sqp HT_ 2 13 ?_
          refine sqp HT_ 3 14 ?_
          refine sqw HT_ HW_ 4 15 hHeld ?_
          refine sqo HT_ 5 16 (fun K hK => ?_)
          refine sqG Try.func40 #[.agg #[.int .i64 a1_0, .int .i64 a1_1]] ?_
          with_reducible refine (spec_RangeOk.calls a1_0 a1_1 true _ A22.out).mono ?_
          rintro e w35 ⟨rfl, hb⟩
          refine ⟨_, rfl, ?_⟩
          replace BK283 := sqb BK283 hb
          replace BK284 := sqb BK284 hb
          replace BK285 := sqb BK285 hb
          replace BK288 := sqb BK288 hb
          replace HB := sqs HB hb
          (try clear hb)
          refine hK.out _ _ sqz (fun hHeld => ?_)
          clear hK K
          refine sqnm ?_
          refine sqp HT_ 6 17 ?_
          refine sqp HT_ 7 18 ?_
          refine sqp HT_ 8 19 ?_
          refine sqw HT_ HW_ 9 20 hHeld ?_
          refine sqo HT_ 10 21 (fun K hK => ?_)
          refine sqG Try.func68 #[] ?_
          with_reducible refine (spec_l8None.calls  t291 t292 _ A24.out).mono ?_
          rintro e w36 ⟨rfl, hb⟩
          refine ⟨_, rfl, ?_⟩
          replace BK283 := sqb BK283 hb
          replace BK284 := sqb BK284 hb
          replace BK285 := sqb BK285 hb
          replace BK288 := sqb BK288 hb
          replace HB := sqs HB hb
          (try clear hb)
          refine hK.out _ _ sqz (fun hHeld => ?_)
          clear hK K
          refine sqnm ?_
          refine sqp HT_ 11 22 ?_
          refine sqp HT_ 12 23 ?_
          refine sqp HT_ 13 24 ?_
          refine sqw HT_ HW_ 14 25 hHeld ?_
          refine sqo HT_ 15 26 (fun K hK => ?_)
          refine sqG Try.func68 #[] ?_
          with_reducible refine (spec_l8None.calls  t293 t294 _ A31.out).mono ?_
          rintro e w37 ⟨rfl, hb⟩
          refine ⟨_, rfl, ?_⟩
          replace BK283 := sqb BK283 hb
          replace BK284 := sqb BK284 hb
          replace BK285 := sqb BK285 hb
          replace BK288 := sqb BK288 hb
          replace HB := sqs HB hb
          (try clear hb)
          refine hK.out _ _ sqz (fun hHeld => ?_)
          clear hK K
          refine sqnm ?_
          refine sqp HT_ 16 27 ?_
          refine sqp HT_ 17 28 ?_
          refine done_ (done_of HT_.out (by kernel_rfl)) ?_
          try go_wp2
          go_meet
          case rel => exact ⟨_, ((a1_0 == t293 && (a1_1 == t294))), (by first | rfl | (simp; done) | (simp [*]; done)), H', ⟨by first | omega | exact Nat.le_refl _⟩, sqk BK283, sqk BK284, sqk BK285, sqk BK288, sqh HB⟩
      · replace c23 := Bool.eq_false_iff.mpr c23
        subst c23
        have H1 : (spec_RangeWiden.j0 k l2 true a0_0 a0_1 t286 t287) = some (r1, r2) := by rw [if_neg (show ¬ (false = true) by decide)] at H; exact H
        clear H
        have H := H1
        clear H1
        have H' := Aside0.mk H
        clear H
        try go_wp2
        have n0_ : Aside0 (((w15.setCell ⟨gb288, 0, none⟩ (.int .i64 t286)).setCell ⟨gb288, 1, none⟩ (.int .i64 t287)).heap[gb283]? = some (.cells #[.int .i64 a0_0, .int .i64 a0_1] 27 (0, 0))) := ⟨by refine sqt ?_; refine blk_far ?_ NB283_288.out _; refine sqt ?_; refine blk_far ?_ NB283_288.out _; refine sqt ?_; exact BK283.out⟩
        have n1_ : Aside0 (((w15.setCell ⟨gb288, 0, none⟩ (.int .i64 t286)).setCell ⟨gb288, 1, none⟩ (.int .i64 t287)).heap[gb284]? = some (.cells #[.int .i64 a1_0, .int .i64 a1_1] 27 (0, 0))) := ⟨by refine sqt ?_; refine blk_far ?_ NB284_288.out _; refine sqt ?_; refine blk_far ?_ NB284_288.out _; refine sqt ?_; exact BK284.out⟩
        have n2_ : Aside0 (((w15.setCell ⟨gb288, 0, none⟩ (.int .i64 t286)).setCell ⟨gb288, 1, none⟩ (.int .i64 t287)).heap[gb285]? = some (.cells #[.int .i64 0, .int .i64 0] 27 (0, 0))) := ⟨by refine sqt ?_; refine blk_far ?_ NB285_288.out _; refine sqt ?_; refine blk_far ?_ NB285_288.out _; refine sqt ?_; exact BK285.out⟩
        have n3_ : Aside0 (((w15.setCell ⟨gb288, 0, none⟩ (.int .i64 t286)).setCell ⟨gb288, 1, none⟩ (.int .i64 t287)).heap[gb288]? = some (.cells #[.int .i64 t286, .int .i64 t287] 27 (0, 0))) := ⟨by refine sqt ?_; refine blk_put (cs := #[.int .i64 t286, .int .i64 0]) ?_ 1 _ rfl; refine sqt ?_; refine blk_put (cs := #[.int .i64 0, .int .i64 0]) ?_ 0 _ rfl; refine sqt ?_; exact BK288.out⟩
        have n4_ : Aside0 (Below w.heap.size w ((w15.setCell ⟨gb288, 0, none⟩ (.int .i64 t286)).setCell ⟨gb288, 1, none⟩ (.int .i64 t287))) := sqh HB
        (try clear BK283)
        (try clear BK284)
        (try clear BK285)
        (try clear BK288)
        (try clear HB)
        generalize ((w15.setCell ⟨gb288, 0, none⟩ (.int .i64 t286)).setCell ⟨gb288, 1, none⟩ (.int .i64 t287)) = w38 at n0_ n1_ n2_ n3_ n4_ ⊢
        have BK283 := n0_
        have BK284 := n1_
        have BK285 := n2_
        have BK288 := n3_
        have HB := n4_
        clear n0_ n1_ n2_ n3_ n4_
        replace BK283 := Aside0.mk (blk_drew BK283.out)
        replace BK284 := Aside0.mk (blk_drew BK284.out)
        replace BK285 := Aside0.mk (blk_drew BK285.out)
        replace BK288 := Aside0.mk (blk_drew BK288.out)
        replace HB := Aside0.mk (below_drew1 HB.out)
        refine start_ (n := 18) (S := fun w' => w'.cell? ⟨gb283, 0, none⟩ = some (.int .i64 a0_0) ∧ w'.cell? ⟨gb283, 1, none⟩ = some (.int .i64 a0_1) ∧ w'.cell? ⟨gb284, 0, none⟩ = some (.int .i64 a1_0) ∧ w'.cell? ⟨gb284, 1, none⟩ = some (.int .i64 a1_1)) (ds := []) #[false, false, false, false, false, false, false, false, false, false, false, false, false, false, false, false, false, false] (by kernel_rfl) rfl rfl ⟨(blk_cell BK283.out 0).trans rfl, (blk_cell BK283.out 1).trans rfl, (blk_cell BK284.out 0).trans rfl, (blk_cell BK284.out 1).trans rfl⟩ (fun hHeld => ?_); refine with_tabW spec_RangeWiden.tab2 spec_RangeWiden.bits2 (fun HT_ HW_ => ?_)
        generalize w38.drew = w39 at BK283 BK284 BK285 BK288 HB hHeld ⊢
        refine sqw HT_ HW_ 0 11 hHeld ?_
        refine sqo HT_ 1 12 (fun K hK => ?_)
        refine sqG Try.func40 #[.agg #[.int .i64 a0_0, .int .i64 a0_1]] ?_
        with_reducible refine (spec_RangeOk.calls a0_0 a0_1 true _ A20.out).mono ?_
        rintro e w40 ⟨rfl, hb⟩
        refine ⟨_, rfl, ?_⟩
        replace BK283 := sqb BK283 hb
        replace BK284 := sqb BK284 hb
        replace BK285 := sqb BK285 hb
        replace BK288 := sqb BK288 hb
        replace HB := sqs HB hb
        (try clear hb)
        refine hK.out _ _ sqz (fun hHeld => ?_)
        clear hK K
        refine sqnm ?_
        refine sqp HT_ 2 13 ?_
        refine sqp HT_ 3 14 ?_
        refine sqw HT_ HW_ 4 15 hHeld ?_
        refine sqo HT_ 5 16 (fun K hK => ?_)
        refine sqG Try.func40 #[.agg #[.int .i64 a1_0, .int .i64 a1_1]] ?_
        with_reducible refine (spec_RangeOk.calls a1_0 a1_1 false _ A22.out).mono ?_
        rintro e w41 ⟨rfl, hb⟩
        refine ⟨_, rfl, ?_⟩
        replace BK283 := sqb BK283 hb
        replace BK284 := sqb BK284 hb
        replace BK285 := sqb BK285 hb
        replace BK288 := sqb BK288 hb
        replace HB := sqs HB hb
        (try clear hb)
        refine hK.out _ _ sqz (fun hHeld => ?_)
        clear hK K
        refine sqnm ?_
        refine sqp HT_ 6 17 ?_
        refine sqp HT_ 7 18 ?_
        refine sqp HT_ 8 19 ?_
        refine sqpu HT_ 9 20 ?_
        refine sqpu HT_ 10 21 ?_
        refine sqpu HT_ 11 22 ?_
        refine sqp HT_ 12 23 ?_
        refine sqp HT_ 13 24 ?_
        refine sqpu HT_ 14 25 ?_
        refine sqpu HT_ 15 26 ?_
        refine sqpu HT_ 16 27 ?_
        refine sqp HT_ 17 28 ?_
        refine done_ (done_of HT_.out (by kernel_rfl)) ?_
        try go_wp2
        go_meet
        case rel => exact ⟨_, (true), (by first | rfl | (simp; done) | (simp [*]; done)), H', ⟨by first | omega | exact Nat.le_refl _⟩, sqk BK283, sqk BK284, sqk BK285, sqk BK288, sqh HB⟩
    · replace c21 := Bool.eq_false_iff.mpr c21
      subst c21
      have H1 : (spec_RangeWiden.j0 k l2 true a0_0 a0_1 t286 t287) = some (r1, r2) := by rw [if_neg (show ¬ (false = true) by decide)] at H; exact H
      clear H
      have H := H1
      clear H1
      have H' := Aside0.mk H
      clear H
      try go_wp2
      have n0_ : Aside0 (((w15.setCell ⟨gb288, 0, none⟩ (.int .i64 t286)).setCell ⟨gb288, 1, none⟩ (.int .i64 t287)).heap[gb283]? = some (.cells #[.int .i64 a0_0, .int .i64 a0_1] 27 (0, 0))) := ⟨by refine sqt ?_; refine blk_far ?_ NB283_288.out _; refine sqt ?_; refine blk_far ?_ NB283_288.out _; refine sqt ?_; exact BK283.out⟩
      have n1_ : Aside0 (((w15.setCell ⟨gb288, 0, none⟩ (.int .i64 t286)).setCell ⟨gb288, 1, none⟩ (.int .i64 t287)).heap[gb284]? = some (.cells #[.int .i64 a1_0, .int .i64 a1_1] 27 (0, 0))) := ⟨by refine sqt ?_; refine blk_far ?_ NB284_288.out _; refine sqt ?_; refine blk_far ?_ NB284_288.out _; refine sqt ?_; exact BK284.out⟩
      have n2_ : Aside0 (((w15.setCell ⟨gb288, 0, none⟩ (.int .i64 t286)).setCell ⟨gb288, 1, none⟩ (.int .i64 t287)).heap[gb285]? = some (.cells #[.int .i64 0, .int .i64 0] 27 (0, 0))) := ⟨by refine sqt ?_; refine blk_far ?_ NB285_288.out _; refine sqt ?_; refine blk_far ?_ NB285_288.out _; refine sqt ?_; exact BK285.out⟩
      have n3_ : Aside0 (((w15.setCell ⟨gb288, 0, none⟩ (.int .i64 t286)).setCell ⟨gb288, 1, none⟩ (.int .i64 t287)).heap[gb288]? = some (.cells #[.int .i64 t286, .int .i64 t287] 27 (0, 0))) := ⟨by refine sqt ?_; refine blk_put (cs := #[.int .i64 t286, .int .i64 0]) ?_ 1 _ rfl; refine sqt ?_; refine blk_put (cs := #[.int .i64 0, .int .i64 0]) ?_ 0 _ rfl; refine sqt ?_; exact BK288.out⟩
      have n4_ : Aside0 (Below w.heap.size w ((w15.setCell ⟨gb288, 0, none⟩ (.int .i64 t286)).setCell ⟨gb288, 1, none⟩ (.int .i64 t287))) := sqh HB
      (try clear BK283)
      (try clear BK284)
      (try clear BK285)
      (try clear BK288)
      (try clear HB)
      generalize ((w15.setCell ⟨gb288, 0, none⟩ (.int .i64 t286)).setCell ⟨gb288, 1, none⟩ (.int .i64 t287)) = w42 at n0_ n1_ n2_ n3_ n4_ ⊢
      have BK283 := n0_
      have BK284 := n1_
      have BK285 := n2_
      have BK288 := n3_
      have HB := n4_
      clear n0_ n1_ n2_ n3_ n4_
      replace BK283 := Aside0.mk (blk_drew BK283.out)
      replace BK284 := Aside0.mk (blk_drew BK284.out)
      replace BK285 := Aside0.mk (blk_drew BK285.out)
      replace BK288 := Aside0.mk (blk_drew BK288.out)
      replace HB := Aside0.mk (below_drew1 HB.out)
      refine start_ (n := 18) (S := fun w' => w'.cell? ⟨gb283, 0, none⟩ = some (.int .i64 a0_0) ∧ w'.cell? ⟨gb283, 1, none⟩ = some (.int .i64 a0_1)) (ds := []) #[false, false, false, false, false, false, false, false, false, false, false, false, false, false, false, false, false, false] (by kernel_rfl) rfl rfl ⟨(blk_cell BK283.out 0).trans rfl, (blk_cell BK283.out 1).trans rfl⟩ (fun hHeld => ?_); refine with_tabW spec_RangeWiden.tab2 spec_RangeWiden.bits2 (fun HT_ HW_ => ?_)
      generalize w42.drew = w43 at BK283 BK284 BK285 BK288 HB hHeld ⊢
      refine sqw HT_ HW_ 0 11 hHeld ?_
      refine sqo HT_ 1 12 (fun K hK => ?_)
      refine sqG Try.func40 #[.agg #[.int .i64 a0_0, .int .i64 a0_1]] ?_
      with_reducible refine (spec_RangeOk.calls a0_0 a0_1 false _ A20.out).mono ?_
      rintro e w44 ⟨rfl, hb⟩
      refine ⟨_, rfl, ?_⟩
      replace BK283 := sqb BK283 hb
      replace BK284 := sqb BK284 hb
      replace BK285 := sqb BK285 hb
      replace BK288 := sqb BK288 hb
      replace HB := sqs HB hb
      (try clear hb)
      refine hK.out _ _ sqz (fun hHeld => ?_)
      clear hK K
      refine sqnm ?_
      refine sqp HT_ 2 13 ?_
      refine sqp HT_ 3 14 ?_
      refine sqpu HT_ 4 15 ?_
      refine sqpu HT_ 5 16 ?_
      refine sqpu HT_ 6 17 ?_
      refine sqp HT_ 7 18 ?_
      refine sqp HT_ 8 19 ?_
      refine sqpu HT_ 9 20 ?_
      refine sqpu HT_ 10 21 ?_
      refine sqpu HT_ 11 22 ?_
      refine sqp HT_ 12 23 ?_
      refine sqp HT_ 13 24 ?_
      refine sqpu HT_ 14 25 ?_
      refine sqpu HT_ 15 26 ?_
      refine sqpu HT_ 16 27 ?_
      refine sqp HT_ 17 28 ?_
      refine done_ (done_of HT_.out (by kernel_rfl)) ?_
      try go_wp2
      go_meet
      case rel => exact ⟨_, (true), (by first | rfl | (simp; done) | (simp [*]; done)), H', ⟨by first | omega | exact Nat.le_refl _⟩, sqk BK283, sqk BK284, sqk BK285, sqk BK288, sqh HB⟩
  case rest =>
    clear HC5
    try clear c2
    obtain ⟨kq, x28_4, rfl, HA, HJ4, BK283, BK284, BK285, BK288, HB⟩ := hcut
    cases kq with
    | zero => exact absurd HA.out (by simp [spec_RangeWiden.j0])
    | succ kj4 =>
      have H := HA.out
      clear HA
      simp only [spec_RangeWiden.j0] at H
      by_cases c45 : x28_4 = true
      · subst c45
        have H1 : (some (t286, t287)) = some (r1, r2) := by rw [if_pos rfl] at H; exact H
        clear H
        have H := H1
        clear H1
        simp only [Option.some.injEq, Prod.mk.injEq] at H
        obtain ⟨rfl, rfl⟩ := H
        have hnb46 := NB288_283.out
        have hnc46 := NB283_288.out
        have hnb47 := NB288_284.out
        have hnc47 := NB284_288.out
        have hnb48 := NB288_285.out
        have hnc48 := NB285_288.out
        obtain ⟨hcz49_0, hcz49_1, hfz49_0, hfz49_1⟩ := sqc2 BK288
        have hnb50 := NB285_283.out
        have hnc50 := NB283_285.out
        have hnb51 := NB285_284.out
        have hnc51 := NB284_285.out
        obtain ⟨hcz52_0, hcz52_1, hfz52_0, hfz52_1⟩ := sqc2 BK285
        go_wp2
        refine bodyPost_ret (results_cell_row rfl _ _ gb285 27 #[.int .i64 t286, .int .i64 t287] (0, 0) _ rfl (by refine sqt ?_; refine blk_put (cs := #[.int .i64 t286, .int .i64 0]) ?_ 1 _ rfl; refine sqt ?_; refine blk_put (cs := #[.int .i64 0, .int .i64 0]) ?_ 0 _ rfl; refine sqt ?_; exact BK285.out) Try.underlying27 rfl (by kernel_rfl)) rfl ?_
        exact sqe HB
      · replace c45 := Bool.eq_false_iff.mpr c45
        subst c45
        have H1 : (if t286 < a0_0 then ((spec_l8Down.f kj4 l2 t286).bind fun t295 => (if t287 > a0_1 then ((spec_l8Up.f kj4 l2 t287).bind fun t296 => (some (t295, t296))) else (some (t295, t287)))) else (if t287 > a0_1 then ((spec_l8Up.f kj4 l2 t287).bind fun t297 => (some (t286, t297))) else (some (t286, t287)))) = some (r1, r2) := by rw [if_neg (show ¬ (false = true) by decide)] at H; exact H
        clear H
        have H := H1
        clear H1
        by_cases c53 : t286 < a0_0
        · rw [if_pos c53] at H
          have c53b0 : decide (t286 < a0_0) = true := decide_eq_true c53
          clear c53
          replace H := Option.bind_eq_some_iff.mp H
          obtain ⟨t295, A540, H⟩ := H
          replace H : (if t287 > a0_1 then ((spec_l8Up.f kj4 l2 t287).bind fun t296 => (some (t295, t296))) else (some (t295, t287))) = some (r1, r2) := H
          have A54 := Aside0.mk A540
          clear A540
          by_cases c55 : t287 > a0_1
          · rw [if_pos c55] at H
            have c55b0 : decide (a0_1 < t287) = true := decide_eq_true c55
            clear c55
            replace H := Option.bind_eq_some_iff.mp H
            obtain ⟨t296, A560, H⟩ := H
            replace H : (some (t295, t296)) = some (r1, r2) := H
            have A56 := Aside0.mk A560
            clear A560
            simp only [Option.some.injEq, Prod.mk.injEq] at H
            obtain ⟨rfl, rfl⟩ := H
            have hnb57 := NB288_283.out
            have hnc57 := NB283_288.out
            have hnb58 := NB288_284.out
            have hnc58 := NB284_288.out
            have hnb59 := NB288_285.out
            have hnc59 := NB285_288.out
            obtain ⟨hcz60_0, hcz60_1, hfz60_0, hfz60_1⟩ := sqc2 BK288
            have hnb61 := NB283_284.out
            have hnc61 := NB284_283.out
            have hnb62 := NB283_285.out
            have hnc62 := NB285_283.out
            obtain ⟨hcz63_0, hcz63_1, hfz63_0, hfz63_1⟩ := sqc2 BK283
            go_wp2_with (first | ((with_reducible refine gate_callee (f := 101) rfl ?_); refine sqL (some 38) Try.func101 #[.slice A2 l2.length c2, .int .i64 t286] ?_; (with_reducible refine (spec_l8Down.calls kj4 _ _ l2 t286 t295 _ ?side1 ?side2 A54.out).mono ?_); (case side1 => repeat (first | exact (Kd.C_below HR2.out HB.out) | (with_reducible refine Kd.C_alloc ?_ _) | (with_reducible refine Kd.C_drewN ?_ _) | (with_reducible refine Kd.C_drew ?_))); (case side2 => exact HC2.out); rintro e w' ⟨rfl, ⟨nd, rfl⟩⟩; refine ⟨_, rfl, ?_⟩; (try (rw [drewN_self wc]; generalize hq_ : World.drewN wc _ = wc; replace BK283 := sqq BK283 hq_; replace BK284 := sqq BK284 hq_; replace BK285 := sqq BK285 hq_; replace BK288 := sqq BK288 hq_; replace HB := sqr HB hq_; clear hq_; obtain ⟨hqz1_0, hqz1_1, hqf1_0, hqf1_1⟩ := sqc2 BK283; obtain ⟨hqz2_0, hqz2_1, hqf2_0, hqf2_1⟩ := sqc2 BK284; obtain ⟨hqz3_0, hqz3_1, hqf3_0, hqf3_1⟩ := sqc2 BK285; obtain ⟨hqz4_0, hqz4_1, hqf4_0, hqf4_1⟩ := sqc2 BK288))) | ((with_reducible refine gate_callee (f := 102) rfl ?_); refine sqL (some 48) Try.func102 #[.slice A2 l2.length c2, .int .i64 t287] ?_; (with_reducible refine (spec_l8Up.calls kj4 _ _ l2 t287 t296 _ ?side1 ?side2 A56.out).mono ?_); (case side1 => exact Kd.C_below HR2.out (by repeat (first | (with_reducible first | exact HB.out | apply below_alloc | apply pw_below_drewN | apply below_drew1 | refine below_set ?_ GE283.out | refine below_set ?_ GE284.out | refine below_set ?_ GE285.out | refine below_set ?_ GE288.out) | exact HB.out))); (case side2 => exact HC2.out); rintro e w' ⟨rfl, ⟨nd, rfl⟩⟩; refine ⟨_, rfl, ?_⟩; have hnb64 := NB285_284.out; have hnc64 := NB284_285.out; obtain ⟨hcz65_0, hcz65_1, hfz65_0, hfz65_1⟩ := sqc2 BK285))
            refine bodyPost_ret (results_cell_row rfl _ _ gb285 27 #[.int .i64 t295, .int .i64 t296] (0, 0) _ rfl (by refine sqt ?_; refine blk_put (cs := #[.int .i64 t295, .int .i64 0]) ?_ 1 _ rfl; refine sqt ?_; refine blk_put (cs := #[.int .i64 0, .int .i64 0]) ?_ 0 _ rfl; refine sqt ?_; refine blk_far ?_ NB285_288.out _; refine sqt ?_; refine blk_far ?_ NB285_288.out _; refine sqt ?_; exact BK285.out) Try.underlying27 rfl (by kernel_rfl)) rfl ?_
            exact sqe HB
          · rw [if_neg c55] at H
            have c55b0 : decide (a0_1 < t287) = false := decide_eq_false c55
            clear c55
            simp only [Option.some.injEq, Prod.mk.injEq] at H
            obtain ⟨rfl, rfl⟩ := H
            have hnb66 := NB288_283.out
            have hnc66 := NB283_288.out
            have hnb67 := NB288_284.out
            have hnc67 := NB284_288.out
            have hnb68 := NB288_285.out
            have hnc68 := NB285_288.out
            obtain ⟨hcz69_0, hcz69_1, hfz69_0, hfz69_1⟩ := sqc2 BK288
            have hnb70 := NB283_284.out
            have hnc70 := NB284_283.out
            have hnb71 := NB283_285.out
            have hnc71 := NB285_283.out
            obtain ⟨hcz72_0, hcz72_1, hfz72_0, hfz72_1⟩ := sqc2 BK283
            go_wp2_with (first | ((with_reducible refine gate_callee (f := 101) rfl ?_); refine sqL (some 38) Try.func101 #[.slice A2 l2.length c2, .int .i64 t286] ?_; (with_reducible refine (spec_l8Down.calls kj4 _ _ l2 t286 t295 _ ?side1 ?side2 A54.out).mono ?_); (case side1 => repeat (first | exact (Kd.C_below HR2.out HB.out) | (with_reducible refine Kd.C_alloc ?_ _) | (with_reducible refine Kd.C_drewN ?_ _) | (with_reducible refine Kd.C_drew ?_))); (case side2 => exact HC2.out); rintro e w' ⟨rfl, ⟨nd, rfl⟩⟩; refine ⟨_, rfl, ?_⟩; (try (rw [drewN_self wc]; generalize hq_ : World.drewN wc _ = wc; replace BK283 := sqq BK283 hq_; replace BK284 := sqq BK284 hq_; replace BK285 := sqq BK285 hq_; replace BK288 := sqq BK288 hq_; replace HB := sqr HB hq_; clear hq_; obtain ⟨hqz5_0, hqz5_1, hqf5_0, hqf5_1⟩ := sqc2 BK283; obtain ⟨hqz6_0, hqz6_1, hqf6_0, hqf6_1⟩ := sqc2 BK284; obtain ⟨hqz7_0, hqz7_1, hqf7_0, hqf7_1⟩ := sqc2 BK285; obtain ⟨hqz8_0, hqz8_1, hqf8_0, hqf8_1⟩ := sqc2 BK288)); have hnb73 := NB285_284.out; have hnc73 := NB284_285.out; obtain ⟨hcz74_0, hcz74_1, hfz74_0, hfz74_1⟩ := sqc2 BK285))
            refine bodyPost_ret (results_cell_row rfl _ _ gb285 27 #[.int .i64 t295, .int .i64 t287] (0, 0) _ rfl (by refine sqt ?_; refine blk_put (cs := #[.int .i64 t295, .int .i64 0]) ?_ 1 _ rfl; refine sqt ?_; refine blk_put (cs := #[.int .i64 0, .int .i64 0]) ?_ 0 _ rfl; refine sqt ?_; refine blk_far ?_ NB285_288.out _; refine sqt ?_; exact BK285.out) Try.underlying27 rfl (by kernel_rfl)) rfl ?_
            exact sqe HB
        · rw [if_neg c53] at H
          have c53b0 : decide (t286 < a0_0) = false := decide_eq_false c53
          clear c53
          by_cases c75 : t287 > a0_1
          · rw [if_pos c75] at H
            have c75b0 : decide (a0_1 < t287) = true := decide_eq_true c75
            clear c75
            replace H := Option.bind_eq_some_iff.mp H
            obtain ⟨t297, A760, H⟩ := H
            replace H : (some (t286, t297)) = some (r1, r2) := H
            have A76 := Aside0.mk A760
            clear A760
            simp only [Option.some.injEq, Prod.mk.injEq] at H
            obtain ⟨rfl, rfl⟩ := H
            have hnb77 := NB288_283.out
            have hnc77 := NB283_288.out
            have hnb78 := NB288_284.out
            have hnc78 := NB284_288.out
            have hnb79 := NB288_285.out
            have hnc79 := NB285_288.out
            obtain ⟨hcz80_0, hcz80_1, hfz80_0, hfz80_1⟩ := sqc2 BK288
            have hnb81 := NB283_284.out
            have hnc81 := NB284_283.out
            have hnb82 := NB283_285.out
            have hnc82 := NB285_283.out
            obtain ⟨hcz83_0, hcz83_1, hfz83_0, hfz83_1⟩ := sqc2 BK283
            go_wp2_with (first | ((with_reducible refine gate_callee (f := 102) rfl ?_); refine sqL (some 48) Try.func102 #[.slice A2 l2.length c2, .int .i64 t287] ?_; (with_reducible refine (spec_l8Up.calls kj4 _ _ l2 t287 t297 _ ?side1 ?side2 A76.out).mono ?_); (case side1 => repeat (first | exact (Kd.C_below HR2.out HB.out) | (with_reducible refine Kd.C_alloc ?_ _) | (with_reducible refine Kd.C_drewN ?_ _) | (with_reducible refine Kd.C_drew ?_))); (case side2 => exact HC2.out); rintro e w' ⟨rfl, ⟨nd, rfl⟩⟩; refine ⟨_, rfl, ?_⟩; (try (rw [drewN_self wc]; generalize hq_ : World.drewN wc _ = wc; replace BK283 := sqq BK283 hq_; replace BK284 := sqq BK284 hq_; replace BK285 := sqq BK285 hq_; replace BK288 := sqq BK288 hq_; replace HB := sqr HB hq_; clear hq_; obtain ⟨hqz9_0, hqz9_1, hqf9_0, hqf9_1⟩ := sqc2 BK283; obtain ⟨hqz10_0, hqz10_1, hqf10_0, hqf10_1⟩ := sqc2 BK284; obtain ⟨hqz11_0, hqz11_1, hqf11_0, hqf11_1⟩ := sqc2 BK285; obtain ⟨hqz12_0, hqz12_1, hqf12_0, hqf12_1⟩ := sqc2 BK288)); have hnb84 := NB285_284.out; have hnc84 := NB284_285.out; obtain ⟨hcz85_0, hcz85_1, hfz85_0, hfz85_1⟩ := sqc2 BK285))
            refine bodyPost_ret (results_cell_row rfl _ _ gb285 27 #[.int .i64 t286, .int .i64 t297] (0, 0) _ rfl (by refine sqt ?_; refine blk_put (cs := #[.int .i64 t286, .int .i64 0]) ?_ 1 _ rfl; refine sqt ?_; refine blk_put (cs := #[.int .i64 0, .int .i64 0]) ?_ 0 _ rfl; refine sqt ?_; refine blk_far ?_ NB285_288.out _; refine sqt ?_; exact BK285.out) Try.underlying27 rfl (by kernel_rfl)) rfl ?_
            exact sqe HB
          · rw [if_neg c75] at H
            have c75b0 : decide (a0_1 < t287) = false := decide_eq_false c75
            clear c75
            simp only [Option.some.injEq, Prod.mk.injEq] at H
            obtain ⟨rfl, rfl⟩ := H
            have hnb86 := NB288_283.out
            have hnc86 := NB283_288.out
            have hnb87 := NB288_284.out
            have hnc87 := NB284_288.out
            have hnb88 := NB288_285.out
            have hnc88 := NB285_288.out
            obtain ⟨hcz89_0, hcz89_1, hfz89_0, hfz89_1⟩ := sqc2 BK288
            have hnb90 := NB283_284.out
            have hnc90 := NB284_283.out
            have hnb91 := NB283_285.out
            have hnc91 := NB285_283.out
            obtain ⟨hcz92_0, hcz92_1, hfz92_0, hfz92_1⟩ := sqc2 BK283
            have hnb93 := NB285_284.out
            have hnc93 := NB284_285.out
            obtain ⟨hcz94_0, hcz94_1, hfz94_0, hfz94_1⟩ := sqc2 BK285
            go_wp2
            refine bodyPost_ret (results_cell_row rfl _ _ gb285 27 #[.int .i64 t286, .int .i64 t287] (0, 0) _ rfl (by refine sqt ?_; refine blk_put (cs := #[.int .i64 t286, .int .i64 0]) ?_ 1 _ rfl; refine sqt ?_; refine blk_put (cs := #[.int .i64 0, .int .i64 0]) ?_ 0 _ rfl; refine sqt ?_; exact BK285.out) Try.underlying27 rfl (by kernel_rfl)) rfl ?_
            exact sqe HB

end Go.Proofs.Ytmdcgkkkfncieaa.PFnRangeStill
