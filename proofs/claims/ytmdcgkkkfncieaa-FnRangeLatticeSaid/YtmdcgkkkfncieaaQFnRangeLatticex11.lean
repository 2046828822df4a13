/- Functions of the program as plain Lean functions, and that calls of them come to what these tell. Conditions: those in each law. -/
import Derived.Test.YtmdcgkkkfncieaaSq
import Derived.Test.YtmdcgkkkfncieaaDFnRangeLattice
import Derived.Test.YtmdcgkkkfncieaaQFnRangeLatticex0
import Derived.Test.YtmdcgkkkfncieaaQFnRangeLatticex1
import Derived.Test.YtmdcgkkkfncieaaQFnRangeLatticex2
import Derived.Test.YtmdcgkkkfncieaaQFnRangeLatticex3
namespace Go.Proofs.Ytmdcgkkkfncieaa.PFnRangeLattice
open Go.RowKit Go.Proofs.Ytmdcgkkkfncieaa.Sq Go.Proofs.YtmdcgkkkfncieaaW.PrintWords Go.Proofs.YtmdcgkkkfncieaaW.PrintLast Go.Proofs.YtmdcgkkkfncieaaW.PrintMore
attribute [local go_sem] max2_int min2_int max_two min_two max_three min_three max_four min_four   -- for this text's walks alone
set_option linter.unusedVariables false
set_option linter.unusedSimpArgs false

attribute [local go_sem high] eqA27
/-! ### spec_RangeJoin: function 48 -/
theorem spec_RangeJoin.mono_l : ∀ k, (∀ y0 y1 y2 y3 y4, LeO (spec_RangeJoin.j0 k y0 y1 y2 y3 y4) (spec_RangeJoin.j0 (k + 1) y0 y1 y2 y3 y4))
  | 0 => fun _ _ _ _ _ r h => by simp [spec_RangeJoin.j0] at h
  | k + 1 => by
    have ih0 := spec_RangeJoin.mono_l k
    · intro y0 y1 y2 y3 y4
      unfold spec_RangeJoin.j0
      repeat' first
      | (with_reducible exact ih0 _ _ _ _ _)
      | (with_reducible exact LeO.refl _)
      | (with_reducible exact LeO.none _)
      | (with_reducible refine LeO.ite ?_ ?_)
      | (with_reducible refine LeO.bind ?_ (fun _ => ?_))
      | exact ih0 _ _ _ _ _
      | exact LeO.none _
      | refine LeO.ite ?_ ?_
      | refine LeO.bind ?_ (fun _ => ?_)
theorem spec_RangeJoin.mono : ∀ a0 a1 a2 a3 k, LeO (spec_RangeJoin.f k a0 a1 a2 a3) (spec_RangeJoin.f (k + 1) a0 a1 a2 a3) := by
  intro a0 a1 a2 a3 k
  have ih0 := spec_RangeJoin.mono_l k
  unfold spec_RangeJoin.f
  repeat' first
      | (with_reducible exact ih0 _ _ _ _ _)
      | (with_reducible exact LeO.refl _)
      | (with_reducible exact LeO.none _)
      | (with_reducible refine LeO.ite ?_ ?_)
      | (with_reducible refine LeO.bind ?_ (fun _ => ?_))
      | exact ih0 _ _ _ _ _
      | exact LeO.none _
      | refine LeO.ite ?_ ?_
      | refine LeO.bind ?_ (fun _ => ?_)
def spec_RangeJoin.T7 : Bool × List (List Nat × List Nat) := (true, [([], []), ([0], [0]), ([], []), ([2], [2]), ([1, 3], [1, 3]), ([], []), ([5], [5]), ([], []), ([7], [7]), ([6, 8, 4], [6, 8]), ([4, 9], [4, 9]), ([10, 9, 0, 1, 2, 3, 4, 5, 6, 7, 8, 9, 10], [10])])
def spec_RangeJoin.B7 : List Nat := [0, 1, 0, 4, 15, 0, 32, 0, 128, 511, 1023, 2047]
theorem spec_RangeJoin.tab7 : rtab .any (opsOf Try.f48 7) = spec_RangeJoin.T7 := by kernel_rfl
theorem spec_RangeJoin.bits7 : waitsOk spec_RangeJoin.T7.2 spec_RangeJoin.B7 = true := by kernel_rfl
set_option maxHeartbeats 8000000 in
set_option maxRecDepth 100000 in
theorem spec_RangeJoin.calls (k : Nat) (a0_0 : Int) (a0_1 : Int) (a1_0 : Int) (a1_1 : Int) (r1 : Int) (r2 : Int) (w : World) (h : spec_RangeJoin.f k a0_0 a0_1 a1_0 a1_1 = some (r1, r2)) :
    Calls Try.prog 48 #[.agg #[.int .i64 a0_0, .int .i64 a0_1], .agg #[.int .i64 a1_0, .int .i64 a1_1]] w fun e w' => e = .returned (.agg #[.int .i64 r1, .int .i64 r2]) ∧ Below w.heap.size w w' := by
  have hu27 := Try.underlying27
  have HB := Aside0.mk (Below.refl w.heap.size w)
  have H : ((spec_RangeOk.f a0_0 a0_1).bind fun t260 => (if t260 = true then ((spec_RangeOk.f a1_0 a1_1).bind fun t261 => (spec_RangeJoin.j0 k (!t261) a0_0 a0_1 a1_0 a1_1)) else (spec_RangeJoin.j0 k true a0_0 a0_1 a1_0 a1_1))) = some (r1, r2) := h
  clear h
  have HC3 := Aside0.mk H
  clear H
  go_enter Try.func48, Try.ntmps48
  go_upto_region 1 with (first | ((with_reducible refine gate_dst (N := 2) rfl ?_); refine sqx 2 #[.int .i64 a0_0, .int .i64 a0_1] 27 ?_; intro gb257 hg w4 hbox hb; have BK257 := Aside0.mk (hbox); have GW257 := sqg HB hg; have GE257 := sqg HB hg; replace HB := sqs HB hb; clear hb hbox hg) | ((with_reducible refine gate_dst (N := 3) rfl ?_); refine sqx 3 #[.int .i64 a1_0, .int .i64 a1_1] 27 ?_; intro gb258 hg w5 hbox hb; have BK258 := Aside0.mk (hbox); have GW258 := sqg HB hg; have GE258 := sqg HB hg; have NB257_258 := sqn BK257 hg; have NB258_257 := sqm BK257 hg; replace BK257 := sqb BK257 hb; replace HB := sqs HB hb; clear hb hbox hg) | ((with_reducible refine gate_dst (N := 4) rfl ?_); refine sqx 4 #[.int .i64 0, .int .i64 0] 27 ?_; intro gb259 hg w6 hbox hb; have BK259 := Aside0.mk (hbox); have GW259 := sqg HB hg; have GE259 := sqg HB hg; have NB257_259 := sqn BK257 hg; have NB259_257 := sqm BK257 hg; have NB258_259 := sqn BK258 hg; have NB259_258 := sqm BK258 hg; replace BK257 := sqb BK257 hb; replace BK258 := sqb BK258 hb; replace HB := sqs HB hb; clear hb hbox hg))
  (try simp only [Act.put, List.setIfInBounds_toArray, List.set_cons_zero, List.set_cons_succ])
  go_cut [12] (fun v12 wc => ∃ (kq : Nat) (x12_2 : Bool), v12 = .bool x12_2 ∧ Aside0 (spec_RangeJoin.j0 kq x12_2 a0_0 a0_1 a1_0 a1_1 = some (r1, r2)) ∧ Aside0 (kq ≤ k) ∧ Aside0 (wc.heap[gb257]? = some (.cells #[.int .i64 a0_0, .int .i64 a0_1] 27 (0, 0))) ∧ Aside0 (wc.heap[gb258]? = some (.cells #[.int .i64 a1_0, .int .i64 a1_1] 27 (0, 0))) ∧ Aside0 (wc.heap[gb259]? = some (.cells #[.int .i64 0, .int .i64 0] 27 (0, 0))) ∧ Aside0 (Below w.heap.size w wc))
  case first =>
    have H := HC3.out
    clear HC3
    replace H := Option.bind_eq_some_iff.mp H
    obtain ⟨t260, A70, H⟩ := H
    replace H : (if t260 = true then ((spec_RangeOk.f a1_0 a1_1).bind fun t261 => (spec_RangeJoin.j0 k (!t261) a0_0 a0_1 a1_0 a1_1)) else (spec_RangeJoin.j0 k true a0_0 a0_1 a1_0 a1_1)) = some (r1, r2) := H
    have A7 := Aside0.mk A70
    clear A70
    by_cases c8 : t260 = true
    · subst c8
      have H1 : ((spec_RangeOk.f a1_0 a1_1).bind fun t261 => (spec_RangeJoin.j0 k (!t261) a0_0 a0_1 a1_0 a1_1)) = some (r1, r2) := by rw [if_pos rfl] at H; exact H
      clear H
      have H := H1
      clear H1
      replace H := Option.bind_eq_some_iff.mp H
      obtain ⟨t261, A90, H⟩ := H
      replace H : (spec_RangeJoin.j0 k (!t261) a0_0 a0_1 a1_0 a1_1) = some (r1, r2) := H
      have A9 := Aside0.mk A90
      clear A90
      have H' := Aside0.mk H
      clear H
      have hnb10 := NB257_258.out
      have hnc10 := NB258_257.out
      have hnb11 := NB257_259.out
      have hnc11 := NB259_257.out
      obtain ⟨hcz12_0, hcz12_1, hfz12_0, hfz12_1⟩ := sqc2 BK257
      go_wp2_with (first | ((with_reducible refine gate_callee (f := 40) rfl ?_); refine sqL (some 6) Try.func40 #[.agg #[.int .i64 a0_0, .int .i64 a0_1]] ?_; (with_reducible refine (spec_RangeOk.calls a0_0 a0_1 true _ A7.out).mono ?_); rintro e w13 ⟨rfl, hb⟩; refine ⟨_, rfl, ?_⟩; replace BK257 := sqb BK257 hb; replace BK258 := sqb BK258 hb; replace BK259 := sqb BK259 hb; replace HB := sqs HB hb; (try clear hb); have hnb14 := NB258_259.out; have hnc14 := NB259_258.out; obtain ⟨hcz15_0, hcz15_1, hfz15_0, hfz15_1⟩ := sqc2 BK258) | (go_at_call 40; (with_reducible refine (spec_RangeOk.calls a1_0 a1_1 t261 _ A9.out).mono ?_); rintro e w16 ⟨rfl, hb⟩; replace BK257 := sqb BK257 hb; replace BK258 := sqb BK258 hb; replace BK259 := sqb BK259 hb; replace HB := sqs HB hb; (try clear hb)))
      go_meet
      case rel => exact ⟨_, (!t261), (by first | rfl | (simp; done) | (simp [*]; done)), H', ⟨by first | omega | exact Nat.le_refl _⟩, sqk BK257, sqk BK258, sqk BK259, sqh HB⟩
    · replace c8 := Bool.eq_false_iff.mpr c8
      subst c8
      have H1 : (spec_RangeJoin.j0 k true a0_0 a0_1 a1_0 a1_1) = some (r1, r2) := by rw [if_neg (show ¬ (false = true) by decide)] at H; exact H
      clear H
      have H := H1
      clear H1
      have H' := Aside0.mk H
      clear H
      have hnb17 := NB257_258.out
      have hnc17 := NB258_257.out
      have hnb18 := NB257_259.out
      have hnc18 := NB259_257.out
      obtain ⟨hcz19_0, hcz19_1, hfz19_0, hfz19_1⟩ := sqc2 BK257
      go_wp2_with (first | ((with_reducible refine gate_callee (f := 40) rfl ?_); refine sqL (some 6) Try.func40 #[.agg #[.int .i64 a0_0, .int .i64 a0_1]] ?_; (with_reducible refine (spec_RangeOk.calls a0_0 a0_1 false _ A7.out).mono ?_); rintro e w20 ⟨rfl, hb⟩; refine ⟨_, rfl, ?_⟩; replace BK257 := sqb BK257 hb; replace BK258 := sqb BK258 hb; replace BK259 := sqb BK259 hb; replace HB := sqs HB hb; (try clear hb)))
      go_meet
      case rel => exact ⟨_, (true), (by first | rfl | (simp; done) | (simp [*]; done)), H', ⟨by first | omega | exact Nat.le_refl _⟩, sqk BK257, sqk BK258, sqk BK259, sqh HB⟩
  case rest =>
    clear HC3
    obtain ⟨kq, x12_2, rfl, HA, HJ2, BK257, BK258, BK259, HB⟩ := hcut
    cases kq with
    | zero => exact absurd HA.out (by simp [spec_RangeJoin.j0])
    | succ kj2 =>
      have H := HA.out
      clear HA
      simp only [spec_RangeJoin.j0] at H
      by_cases c21 : x12_2 = true
      · subst c21
        have H1 : ((spec_l8None.f).bind fun bt262 => (some (bt262.1, bt262.2))) = some (r1, r2) := by rw [if_pos rfl] at H; exact H
        clear H
        have H := H1
        clear H1
        replace H := Option.bind_eq_some_iff.mp H
        obtain ⟨⟨t262, t263⟩, A220, H⟩ := H
        replace H : (some (t262, t263)) = some (r1, r2) := H
        have A22 := Aside0.mk A220
        clear A220
        simp only [Option.some.injEq, Prod.mk.injEq] at H
        obtain ⟨rfl, rfl⟩ := H
        go_wp2_with (first | ((with_reducible refine gate_callee (f := 68) rfl ?_); refine sqL (some 13) Try.func68 #[] ?_; (with_reducible refine (spec_l8None.calls  t262 t263 _ A22.out).mono ?_); rintro e w23 ⟨rfl, hb⟩; refine ⟨_, rfl, ?_⟩; replace BK257 := sqb BK257 hb; replace BK258 := sqb BK258 hb; replace BK259 := sqb BK259 hb; replace HB := sqs HB hb; (try clear hb); have hnb24 := NB259_257.out; have hnc24 := NB257_259.out; have hnb25 := NB259_258.out; have hnc25 := NB258_259.out; obtain ⟨hcz26_0, hcz26_1, hfz26_0, hfz26_1⟩ := sqc2 BK259))
        refine bodyPost_ret (results_cell_row rfl _ _ gb259 27 #[.int .i64 t262, .int .i64 t263] (0, 0) _ rfl (by refine sqt ?_; refine blk_put (cs := #[.int .i64 t262, .int .i64 0]) ?_ 1 _ rfl; refine sqt ?_; refine blk_put (cs := #[.int .i64 0, .int .i64 0]) ?_ 0 _ rfl; refine sqt ?_; exact BK259.out) Try.underlying27 rfl (by kernel_rfl)) rfl ?_
        exact sqe HB
      · replace c21 := Bool.eq_false_iff.mpr c21
        subst c21
        have H1 : ((spec_l8None.f).bind fun bt264 => (if (a0_0 == bt264.1 && (a0_1 == bt264.2)) = true then (some (a1_0, a1_1)) else ((spec_l8None.f).bind fun bt266 => (if (a1_0 == bt266.1 && (a1_1 == bt266.2)) = true then (some (a0_0, a0_1)) else ((spec_l8Min.f a0_0 a1_0).bind fun t268 => ((spec_l8Max.f a0_1 a1_1).bind fun t269 => (some (t268, t269)))))))) = some (r1, r2) := by rw [if_neg (show ¬ (false = true) by decide)] at H; exact H
        clear H
        have H := H1
        clear H1
        replace H := Option.bind_eq_some_iff.mp H
        obtain ⟨⟨t264, t265⟩, A270, H⟩ := H
        replace H : (if (a0_0 == t264 && (a0_1 == t265)) = true then (some (a1_0, a1_1)) else ((spec_l8None.f).bind fun bt266 => (if (a1_0 == bt266.1 && (a1_1 == bt266.2)) = true then (some (a0_0, a0_1)) else ((spec_l8Min.f a0_0 a1_0).bind fun t268 => ((spec_l8Max.f a0_1 a1_1).bind fun t269 => (some (t268, t269))))))) = some (r1, r2) := H
        have A27 := Aside0.mk A270
        clear A270
        by_cases c28 : (a0_0 == t264 && (a0_1 == t265)) = true
        · rw [if_pos c28] at H
          have c28b0 : (a0_0 == t264 && (a0_1 == t265)) = true := c28
          (try (have c28b1 : decide (a0_0 = t264 && (a0_1 == t265)) = true := by simpa using c28))
          (try (have c28b2 : (a0_0 == t264 && (a0_1 == t265)) = true := by simpa using c28))
          clear c28
          simp only [Option.some.injEq, Prod.mk.injEq] at H
          obtain ⟨rfl, rfl⟩ := H
          try go_wp2
          replace BK257 := Aside0.mk (blk_drew BK257.out)
          replace BK258 := Aside0.mk (blk_drew BK258.out)
          replace BK259 := Aside0.mk (blk_drew BK259.out)
          replace HB := Aside0.mk (below_drew1 HB.out)
          refine start_ (n := 3) (S := fun w' => w'.cell? ⟨gb257, 0, none⟩ = some (.int .i64 a0_0) ∧ w'.cell? ⟨gb257, 1, none⟩ = some (.int .i64 a0_1)) (ds := []) #[false, false, false] (by kernel_rfl) rfl rfl ⟨(blk_cell BK257.out 0).trans rfl, (blk_cell BK257.out 1).trans rfl⟩ (fun hHeld => ?_)
          generalize wc.drew = w29 at BK257 BK258 BK259 HB hHeld ⊢
          refine take_ (i := 0) (N := some 14) (v := ?_) (a' := ?_) #[true, false, false] rfl rfl (by kernel_rfl) (fun _ _ _ h => h) (Or.inl ⟨by rfl, ?_⟩) hHeld ?_ ?_
          rotate_left
          · rintro w' ⟨s0, s1⟩
            go_simp
            with_reducible rfl
          rotate_left
          · simp only [Act.put, List.setIfInBounds_toArray, List.set_cons_zero, List.set_cons_succ, i64_w, i32_w]
            rfl
          refine one_ (i := 1) (N := some 15) #[true, true, false] rfl rfl (by kernel_rfl) (by decide) (fun K hK => ?_)
          refine sqG Try.func68 #[] ?_
          with_reducible refine (spec_l8None.calls  t264 t265 _ A27.out).mono ?_
          rintro e w30 ⟨rfl, hb⟩
          refine ⟨_, rfl, ?_⟩
          replace BK257 := sqb BK257 hb
          replace BK258 := sqb BK258 hb
          replace BK259 := sqb BK259 hb
          replace HB := sqs HB hb
          (try clear hb)
          refine hK.out _ _ sqz (fun hHeld => ?_)
          clear hK K
          refine sqnm ?_
          refine pure_ (i := 2) (N := some 16) (v := ?_) (a' := ?_) #[true, true, true] rfl rfl (by kernel_rfl) (fun _ _ _ h => h) (Or.inl ⟨by rfl, ?_⟩) ?_ ?_
          rotate_left
          · intro w'
            go_simp
            with_reducible rfl
          rotate_left
          · simp only [Act.put, List.setIfInBounds_toArray, List.set_cons_zero, List.set_cons_succ, i64_w, i32_w]
            rfl
          refine done_ (by kernel_rfl) ?_
          have hnb31 := NB258_257.out
          have hnc31 := NB257_258.out
          have hnb32 := NB258_259.out
          have hnc32 := NB259_258.out
          obtain ⟨hcz33_0, hcz33_1, hfz33_0, hfz33_1⟩ := sqc2 BK258
          have hnb34 := NB259_257.out
          have hnc34 := NB257_259.out
          obtain ⟨hcz35_0, hcz35_1, hfz35_0, hfz35_1⟩ := sqc2 BK259
          try go_wp2
          refine bodyPost_ret (results_cell_row rfl _ _ gb259 27 #[.int .i64 a1_0, .int .i64 a1_1] (0, 0) _ rfl (by refine sqt ?_; refine blk_put (cs := #[.int .i64 a1_0, .int .i64 0]) ?_ 1 _ rfl; refine sqt ?_; refine blk_put (cs := #[.int .i64 0, .int .i64 0]) ?_ 0 _ rfl; refine sqt ?_; exact BK259.out) Try.underlying27 rfl (by kernel_rfl)) rfl ?_
          exact sqe HB
        · rw [if_neg c28] at H
          have c28b0 : (a0_0 == t264 && (a0_1 == t265)) = false := by simpa using c28
          (try (have c28b1 : decide (a0_0 = t264 && (a0_1 == t265)) = false := by simpa using c28))
          (try (have c28b2 : (a0_0 == t264 && (a0_1 == t265)) = false := by simpa using c28))
          (try (have c28b3 : ¬ (a0_0 = t264 && (a0_1 == t265)) := by simpa using c28))
          clear c28
          replace H := Option.bind_eq_some_iff.mp H
          obtain ⟨⟨t266, t267⟩, A360, H⟩ := H
          replace H : (if (a1_0 == t266 && (a1_1 == t267)) = true then (some (a0_0, a0_1)) else ((spec_l8Min.f a0_0 a1_0).bind fun t268 => ((spec_l8Max.f a0_1 a1_1).bind fun t269 => (some (t268, t269))))) = some (r1, r2) := H
          have A36 := Aside0.mk A360
          clear A360
          by_cases c37 : (a1_0 == t266 && (a1_1 == t267)) = true
          · rw [if_pos c37] at H
            have c37b0 : (a1_0 == t266 && (a1_1 == t267)) = true := c37
            (try (have c37b1 : decide (a1_0 = t266 && (a1_1 == t267)) = true := by simpa using c37))
            (try (have c37b2 : (a1_0 == t266 && (a1_1 == t267)) = true := by simpa using c37))
            clear c37
            simp only [Option.some.injEq, Prod.mk.injEq] at H
            obtain ⟨rfl, rfl⟩ := H
            try go_wp2
            replace BK257 := Aside0.mk (blk_drew BK257.out)
            replace BK258 := Aside0.mk (blk_drew BK258.out)
            replace BK259 := Aside0.mk (blk_drew BK259.out)
            replace HB := Aside0.mk (below_drew1 HB.out)
            refine start_ (n := 3) (S := fun w' => w'.cell? ⟨gb257, 0, none⟩ = some (.int .i64 a0_0) ∧ w'.cell? ⟨gb257, 1, none⟩ = some (.int .i64 a0_1)) (ds := []) #[false, false, false] (by kernel_rfl) rfl rfl ⟨(blk_cell BK257.out 0).trans rfl, (blk_cell BK257.out 1).trans rfl⟩ (fun hHeld => ?_)
            generalize wc.drew = w38 at BK257 BK258 BK259 HB hHeld ⊢
            refine take_ (i := 0) (N := some 14) (v := ?_) (a' := ?_) #[true, false, false] rfl rfl (by kernel_rfl) (fun _ _ _ h => h) (Or.inl ⟨by rfl, ?_⟩) hHeld ?_ ?_
            rotate_left
            · rintro w' ⟨s0, s1⟩
              go_simp
              with_reducible rfl
            rotate_left
            · simp only [Act.put, List.setIfInBounds_toArray, List.set_cons_zero, List.set_cons_succ, i64_w, i32_w]
              rfl
            refine one_ (i := 1) (N := some 15) #[true, true, false] rfl rfl (by kernel_rfl) (by decide) (fun K hK => ?_)
            refine sqG Try.func68 #[] ?_
            with_reducible refine (spec_l8None.calls  t264 t265 _ A27.out).mono ?_
            rintro e w39 ⟨rfl, hb⟩
            refine ⟨_, rfl, ?_⟩
            replace BK257 := sqb BK257 hb
            replace BK258 := sqb BK258 hb
            replace BK259 := sqb BK259 hb
            replace HB := sqs HB hb
            (try clear hb)
            refine hK.out _ _ sqz (fun hHeld => ?_)
            clear hK K
            refine sqnm ?_
            refine pure_ (i := 2) (N := some 16) (v := ?_) (a' := ?_) #[true, true, true] rfl rfl (by kernel_rfl) (fun _ _ _ h => h) (Or.inl ⟨by rfl, ?_⟩) ?_ ?_
            rotate_left
            · intro w'
              go_simp
              with_reducible rfl
            rotate_left
            · simp only [Act.put, List.setIfInBounds_toArray, List.set_cons_zero, List.set_cons_succ, i64_w, i32_w]
              rfl
            refine done_ (by kernel_rfl) ?_
            try go_wp2
            replace BK257 := Aside0.mk (blk_drew BK257.out)
            replace BK258 := Aside0.mk (blk_drew BK258.out)
            replace BK259 := Aside0.mk (blk_drew BK259.out)
            replace HB := Aside0.mk (below_drew1 HB.out)
            refine start_ (n := 3) (S := fun w' => w'.cell? ⟨gb258, 0, none⟩ = some (.int .i64 a1_0) ∧ w'.cell? ⟨gb258, 1, none⟩ = some (.int .i64 a1_1)) (ds := []) #[false, false, false] (by kernel_rfl) rfl rfl ⟨(blk_cell BK258.out 0).trans rfl, (blk_cell BK258.out 1).trans rfl⟩ (fun hHeld => ?_)
            generalize w39.drew = w40 at BK257 BK258 BK259 HB hHeld ⊢
            refine take_ (i := 0) (N := some 18) (v := ?_) (a' := ?_) #[true, false, false] rfl rfl (by kernel_rfl) (fun _ _ _ h => h) (Or.inl ⟨by rfl, ?_⟩) hHeld ?_ ?_
            rotate_left
            · rintro w' ⟨s0, s1⟩
              go_simp
              with_reducible rfl
            rotate_left
            · simp only [Act.put, List.setIfInBounds_toArray, List.set_cons_zero, List.set_cons_succ, i64_w, i32_w]
              rfl
            refine one_ (i := 1) (N := some 19) #[true, true, false] rfl rfl (by kernel_rfl) (by decide) (fun K hK => ?_)
            refine sqG Try.func68 #[] ?_
            with_reducible refine (spec_l8None.calls  t266 t267 _ A36.out).mono ?_
            rintro e w41 ⟨rfl, hb⟩
            refine ⟨_, rfl, ?_⟩
            replace BK257 := sqb BK257 hb
            replace BK258 := sqb BK258 hb
            replace BK259 := sqb BK259 hb
            replace HB := sqs HB hb
            (try clear hb)
            refine hK.out _ _ sqz (fun hHeld => ?_)
            clear hK K
            refine sqnm ?_
            refine pure_ (i := 2) (N := some 20) (v := ?_) (a' := ?_) #[true, true, true] rfl rfl (by kernel_rfl) (fun _ _ _ h => h) (Or.inl ⟨by rfl, ?_⟩) ?_ ?_
            rotate_left
            · intro w'
              go_simp
              with_reducible rfl
            rotate_left
            · simp only [Act.put, List.setIfInBounds_toArray, List.set_cons_zero, List.set_cons_succ, i64_w, i32_w]
              rfl
            refine done_ (by kernel_rfl) ?_
            have hnb42 := NB257_258.out
            have hnc42 := NB258_257.out
            have hnb43 := NB257_259.out
            have hnc43 := NB259_257.out
            obtain ⟨hcz44_0, hcz44_1, hfz44_0, hfz44_1⟩ := sqc2 BK257
            have hnb45 := NB259_258.out
            have hnc45 := NB258_259.out
            obtain ⟨hcz46_0, hcz46_1, hfz46_0, hfz46_1⟩ := sqc2 BK259
            try go_wp2
            refine bodyPost_ret (results_cell_row rfl _ _ gb259 27 #[.int .i64 a0_0, .int .i64 a0_1] (0, 0) _ rfl (by refine sqt ?_; refine blk_put (cs := #[.int .i64 a0_0, .int .i64 0]) ?_ 1 _ rfl; refine sqt ?_; refine blk_put (cs := #[.int .i64 0, .int .i64 0]) ?_ 0 _ rfl; refine sqt ?_; exact BK259.out) Try.underlying27 rfl (by kernel_rfl)) rfl ?_
            exact sqe HB
          · rw [if_neg c37] at H
            have c37b0 : (a1_0 == t266 && (a1_1 == t267)) = false := by simpa using c37
            (try (have c37b1 : decide (a1_0 = t266 && (a1_1 == t267)) = false := by simpa using c37))
            (try (have c37b2 : (a1_0 == t266 && (a1_1 == t267)) = false := by simpa using c37))
            (try (have c37b3 : ¬ (a1_0 = t266 && (a1_1 == t267)) := by simpa using c37))
            clear c37
            replace H := Option.bind_eq_some_iff.mp H
            obtain ⟨t268, A470, H⟩ := H
            replace H : ((spec_l8Max.f a0_1 a1_1).bind fun t269 => (some (t268, t269))) = some (r1, r2) := H
            have A47 := Aside0.mk A470
            clear A470
            replace H := Option.bind_eq_some_iff.mp H
            obtain ⟨t269, A480, H⟩ := H
            replace H : (some (t268, t269)) = some (r1, r2) := H
            have A48 := Aside0.mk A480
            clear A480
            simp only [Option.some.injEq, Prod.mk.injEq] at H
            obtain ⟨rfl, rfl⟩ := H
            try go_wp2
            replace BK257 := Aside0.mk (blk_drew BK257.out)
            replace BK258 := Aside0.mk (blk_drew BK258.out)
            replace BK259 := Aside0.mk (blk_drew BK259.out)
            replace HB := Aside0.mk (below_drew1 HB.out)
            refine start_ (n := 3) (S := fun w' => w'.cell? ⟨gb257, 0, none⟩ = some (.int .i64 a0_0) ∧ w'.cell? ⟨gb257, 1, none⟩ = some (.int .i64 a0_1)) (ds := []) #[false, false, false] (by kernel_rfl) rfl rfl ⟨(blk_cell BK257.out 0).trans rfl, (blk_cell BK257.out 1).trans rfl⟩ (fun hHeld => ?_)
            generalize wc.drew = w49 at BK257 BK258 BK259 HB hHeld ⊢
            refine take_ (i := 0) (N := some 14) (v := ?_) (a' := ?_) #[true, false, false] rfl rfl (by kernel_rfl) (fun _ _ _ h => h) (Or.inl ⟨by rfl, ?_⟩) hHeld ?_ ?_
            rotate_left
            · rintro w' ⟨s0, s1⟩
              go_simp
              with_reducible rfl
            rotate_left
            · simp only [Act.put, List.setIfInBounds_toArray, List.set_cons_zero, List.set_cons_succ, i64_w, i32_w]
              rfl
            refine one_ (i := 1) (N := some 15) #[true, true, false] rfl rfl (by kernel_rfl) (by decide) (fun K hK => ?_)
            refine sqG Try.func68 #[] ?_
            with_reducible refine (spec_l8None.calls  t264 t265 _ A27.out).mono ?_
            rintro e w50 ⟨rfl, hb⟩
            refine ⟨_, rfl, ?_⟩
            replace BK257 := sqb BK257 hb
            replace BK258 := sqb BK258 hb
            replace BK259 := sqb BK259 hb
            replace HB := sqs HB hb
            (try clear hb)
            refine hK.out _ _ sqz (fun hHeld => ?_)
            clear hK K
            refine sqnm ?_
            refine pure_ (i := 2) (N := some 16) (v := ?_) (a' := ?_) #[true, true, true] rfl rfl (by kernel_rfl) (fun _ _ _ h => h) (Or.inl ⟨by rfl, ?_⟩) ?_ ?_
            rotate_left
            · intro w'
              go_simp
              with_reducible rfl
            rotate_left
            · simp only [Act.put, List.setIfInBounds_toArray, List.set_cons_zero, List.set_cons_succ, i64_w, i32_w]
              rfl
            refine done_ (by kernel_rfl) ?_
            try go_wp2
            replace BK257 := Aside0.mk (blk_drew BK257.out)
            replace BK258 := Aside0.mk (blk_drew BK258.out)
            replace BK259 := Aside0.mk (blk_drew BK259.out)
            replace HB := Aside0.mk (below_drew1 HB.out)
            refine start_ (n := 3) (S := fun w' => w'.cell? ⟨gb258, 0, none⟩ = some (.int .i64 a1_0) ∧ w'.cell? ⟨gb258, 1, none⟩ = some (.int .i64 a1_1)) (ds := []) #[false, false, false] (by kernel_rfl) rfl rfl ⟨(blk_cell BK258.out 0).trans rfl, (blk_cell BK258.out 1).trans rfl⟩ (fun hHeld => ?_)
            generalize w50.drew = w51 at BK257 BK258 BK259 HB hHeld ⊢
            refine take_ (i := 0) (N := some 18) (v := ?_) (a' := ?_) #[true, false, false] rfl rfl (by kernel_rfl) (fun _ _ _ h => h) (Or.inl ⟨by rfl, ?_⟩) hHeld ?_ ?_
            rotate_left
            · rintro w' ⟨s0, s1⟩
              go_simp
              with_reducible rfl
            rotate_left
            · simp only [Act.put, List.setIfInBounds_toArray, List.set_cons_zero, List.set_cons_succ, i64_w, i32_w]
              rfl
            refine one_ (i := 1) (N := some 19) #[true, true, false] rfl rfl (by kernel_rfl) (by decide) (fun K hK => ?_)
            refine sqG Try.func68 #[] ?_
            with_reducible refine (spec_l8None.calls  t266 t267 _ A36.out).mono ?_
            rintro e w52 ⟨rfl, hb⟩
            refine ⟨_, rfl, ?_⟩
            replace BK257 := sqb BK257 hb
            replace BK258 := sqb BK258 hb
            replace BK259 := sqb BK259 hb
            replace HB := sqs HB hb
            (try clear hb)
            refine hK.out _ _ sqz (fun hHeld => ?_)
            clear hK K
            refine sqnm ?_
            refine pure_ (i := 2) (N := some 20) (v := ?_) (a' := ?_) #[true, true, true] rfl rfl (by kernel_rfl) (fun _ _ _ h => h) (Or.inl ⟨by rfl, ?_⟩) ?_ ?_
            rotate_left
            · intro w'
              go_simp
              with_reducible rfl
            rotate_left
            · simp only [Act.put, List.setIfInBounds_toArray, List.set_cons_zero, List.set_cons_succ, i64_w, i32_w]
              rfl
            refine done_ (by kernel_rfl) ?_
            try go_wp2
            replace BK257 := Aside0.mk (blk_drew BK257.out)
            replace BK258 := Aside0.mk (blk_drew BK258.out)
            replace BK259 := Aside0.mk (blk_drew BK259.out)
            replace HB := Aside0.mk (below_drew1 HB.out)
            refine start_ (n := 12) (S := fun w' => w'.cell? ⟨gb257, 0, none⟩ = some (.int .i64 a0_0) ∧ w'.cell? ⟨gb257, 1, none⟩ = some (.int .i64 a0_1) ∧ w'.cell? ⟨gb258, 0, none⟩ = some (.int .i64 a1_0) ∧ w'.cell? ⟨gb258, 1, none⟩ = some (.int .i64 a1_1)) (ds := []) #[false, false, false, false, false, false, false, false, false, false, false, false] (by kernel_rfl) rfl rfl ⟨(blk_cell BK257.out 0).trans rfl, (blk_cell BK257.out 1).trans rfl, (blk_cell BK258.out 0).trans rfl, (blk_cell BK258.out 1).trans rfl⟩ (fun hHeld => ?_); refine with_tabW spec_RangeJoin.tab7 spec_RangeJoin.bits7 (fun HT_ HW_ => ?_)
            generalize w52.drew = w53 at BK257 BK258 BK259 HB hHeld ⊢
            refine sqp HT_ 0 22 ?_
            refine sqp HT_ 2 24 ?_
            refine sqp HT_ 5 27 ?_
            refine sqp HT_ 7 29 ?_
            refine sqw HT_ HW_ 1 23 hHeld ?_
            refine sqw HT_ HW_ 3 25 hHeld ?_
            refine sqw HT_ HW_ 6 28 hHeld ?_
            refine sqw HT_ HW_ 8 30 hHeld ?_
            refine sqo HT_ 4 26 (fun K hK => ?_)
            refine sqG Try.func103 #[.int .i64 a0_0, .int .i64 a1_0] ?_
            with_reducible refine (spec_l8Min.calls a0_0 a1_0 t268 _ A47.out).mono ?_
            rintro e w' ⟨rfl, ⟨nd, rfl⟩⟩
            refine ⟨_, rfl, ?_⟩
            refine hK.out _ _ sqz (fun hHeld => ?_)
            clear hK K
            refine sqnm ?_
            refine sqo HT_ 9 31 (fun K hK => ?_)
            refine sqG Try.func81 #[.int .i64 a0_1, .int .i64 a1_1] ?_
            with_reducible refine (spec_l8Max.calls a0_1 a1_1 t269 _ A48.out).mono ?_
            rintro e w' ⟨rfl, ⟨nd, rfl⟩⟩
            refine ⟨_, rfl, ?_⟩
            refine hK.out _ _ sqz (fun hHeld => ?_)
            clear hK K
            refine sqnm ?_
            refine sqp HT_ 10 32 ?_
            refine one_ (i := 11) (N := none) #[true, true, true, true, true, true, true, true, true, true, true, true] rfl rfl (one_of HT_.out (by kernel_rfl)) (by decide) (fun K hK => ?_)
            have hs54 : w53.cell? ⟨gb259, 0, none⟩ = some (.int .i64 0) := (blk_cell BK259.out 0).trans rfl
            have hfs54 := blk_frozen BK259.out 0
            have hns54_0 := NB257_259.out
            have hns54_1 := NB258_259.out
            have hms54_0 := NB259_257.out
            have hms54_1 := NB259_258.out
            have hs55 : w53.cell? ⟨gb259, 1, none⟩ = some (.int .i64 0) := (blk_cell BK259.out 1).trans rfl
            have hfs55 := blk_frozen BK259.out 1
            have hns55_0 := NB257_259.out
            have hns55_1 := NB258_259.out
            have hms55_0 := NB259_257.out
            have hms55_1 := NB259_258.out
            refine skip_ (w1 := ?_) (by rfl) rfl ?_ ?_
            rotate_left
            · go_simp
              rfl
            refine hK.out _ _ ⟨((cell_far (p := ⟨gb259, _, none⟩) NB257_259.out _).trans (((cell_far (p := ⟨gb259, _, none⟩) NB257_259.out _).trans (hHeld.1)))), ((cell_far (p := ⟨gb259, _, none⟩) NB257_259.out _).trans (((cell_far (p := ⟨gb259, _, none⟩) NB257_259.out _).trans (hHeld.2.1)))), ((cell_far (p := ⟨gb259, _, none⟩) NB258_259.out _).trans (((cell_far (p := ⟨gb259, _, none⟩) NB258_259.out _).trans (hHeld.2.2.1)))), ((cell_far (p := ⟨gb259, _, none⟩) NB258_259.out _).trans (((cell_far (p := ⟨gb259, _, none⟩) NB258_259.out _).trans (hHeld.2.2.2))))⟩ (fun hHeld => ?_)
            clear hK K
            refine done_ (done_of HT_.out (by kernel_rfl)) ?_
            try go_wp2
            refine bodyPost_ret (results_cell_row rfl _ _ gb259 27 #[.int .i64 t268, .int .i64 t269] (0, 0) _ rfl (by refine sqt ?_; refine blk_put (cs := #[.int .i64 t268, .int .i64 0]) ?_ 1 _ rfl; refine sqt ?_; refine blk_put (cs := #[.int .i64 0, .int .i64 0]) ?_ 0 _ rfl; refine sqt ?_; exact BK259.out) Try.underlying27 rfl (by kernel_rfl)) rfl ?_
            exact sqe HB

/-! ### spec_l8Down: function 101 -/
theorem spec_l8Down.mono_l : ∀ k, (∀ y0 y1 y2 y3, LeO (spec_l8Down.l0 k y0 y1 y2 y3) (spec_l8Down.l0 (k + 1) y0 y1 y2 y3))
  | 0 => fun _ _ _ _ r h => by simp [spec_l8Down.l0] at h
  | k + 1 => by
    have ih0 := spec_l8Down.mono_l k
    · intro y0 y1 y2 y3
      unfold spec_l8Down.l0
      repeat' first
      | (with_reducible exact ih0 _ _ _ _)
      | (with_reducible exact LeO.refl _)
      | (with_reducible exact LeO.none _)
      | (with_reducible refine LeO.ite ?_ ?_)
      | (with_reducible refine LeO.bind ?_ (fun _ => ?_))
      | exact ih0 _ _ _ _
      | exact LeO.none _
      | refine LeO.ite ?_ ?_
      | refine LeO.bind ?_ (fun _ => ?_)
theorem spec_l8Down.mono : ∀ a0 a1 k, LeO (spec_l8Down.f k a0 a1) (spec_l8Down.f (k + 1) a0 a1) := by
  intro a0 a1 k
  have ih0 := spec_l8Down.mono_l k
  unfold spec_l8Down.f
  repeat' first
      | (with_reducible exact ih0 _ _ _ _)
      | (with_reducible exact LeO.refl _)
      | (with_reducible exact LeO.none _)
      | (with_reducible refine LeO.ite ?_ ?_)
      | (with_reducible refine LeO.bind ?_ (fun _ => ?_))
      | exact ih0 _ _ _ _
      | exact LeO.none _
      | refine LeO.ite ?_ ?_
      | refine LeO.bind ?_ (fun _ => ?_)
set_option maxHeartbeats 8000000 in
set_option maxRecDepth 100000 in
theorem spec_l8Down.calls (k : Nat) (A0 : Option Addr) (c0 : Nat) (l0 : List Int) (a1 : Int) (r : Int) (w : World) (hr0 : Kd.C (Kd.int .i64) w A0 l0.length l0) (hc0 : l0.length ≤ c0) (h : spec_l8Down.f k l0 a1 = some r) :
    Calls Try.prog 101 #[.slice A0 l0.length c0, .int .i64 a1] w fun e w' => e = .returned (.int .i64 r) ∧ Drawn0 w w' := by
  have HR0 := Aside0.mk hr0
  have HC0 := Aside0.mk hc0
  clear hr0 hc0
  have H : (spec_l8Down.l0 k l0 a1 (-2147483648) 0) = some r := h
  clear h
  have H' := Aside0.mk H
  clear H
  go_enter Try.func101, Try.ntmps101
  go_wp2
  go_loopg [5, 6] k (fun kq v5 v6 w' => ∃ (x5_1 : Int) (x6_1 : Int), v5 = .int .i64 x5_1 ∧ v6 = .int .i64 x6_1 ∧ Aside0 (spec_l8Down.l0 kq l0 a1 x5_1 x6_1 = some r) ∧ Aside0 (kq ≤ k) ∧ Drawn0 w w')
  case atStart => exact ⟨((-2147483648)), (0), (by first | rfl | (simp; done) | (simp [*]; done)), (by first | rfl | (simp; done) | (simp [*]; done)), H', ⟨Nat.le_refl _⟩, by repeat (first | exact Drawn0.refl _ | apply Drawn0.step)⟩
  case round =>
    clear H'
    try clear c1
    try clear p2
    obtain ⟨x5_1, x6_1, rfl, rfl, HA, HK1, ⟨m1, rfl⟩⟩ := hrel
    cases gk with
    | zero => exact absurd HA.out (by simp [spec_l8Down.l0])
    | succ k1 =>
      have H := HA.out
      clear HA
      simp only [spec_l8Down.l0] at H
      by_cases c3 : x6_1 < (l0.length : Int)
      · rw [if_pos c3] at H
        have c3b0 : decide (x6_1 < (l0.length : Int)) = true := decide_eq_true c3
        clear c3
        by_cases c4 : 0 ≤ x6_1
        · rw [if_pos c4] at H
          have c4b0 : decide (0 ≤ x6_1) = true := decide_eq_true c4
          clear c4
          by_cases c5 : (rd l0 x6_1) ≤ a1
          · rw [if_pos c5] at H
            have c5b0 : decide ((rd l0 x6_1) ≤ a1) = true := decide_eq_true c5
            clear c5
            by_cases c6 : (rd l0 x6_1) > x5_1
            · rw [if_pos c6] at H
              have c6b0 : decide (x5_1 < (rd l0 x6_1)) = true := decide_eq_true c6
              clear c6
              have H' := Aside0.mk H
              clear H
              have p270 : 0 ≤ (x6_1 : Int) := of_decide_eq_true (by first | (with_reducible assumption) | assumption)
              have q270 : x6_1 < (l0.length : Int) := of_decide_eq_true (by first | (with_reducible assumption) | assumption)
              obtain ⟨ad270, e270, hx270_0⟩ := Kd.at_int HR0.out x6_1 p270 q270
              cases e270
              replace p270 := eq_true p270
              replace q270 := eq_true q270
              have p271 : 0 ≤ (x6_1 : Int) := of_decide_eq_true (by first | (with_reducible assumption) | assumption)
              have q271 : x6_1 < (l0.length : Int) := of_decide_eq_true (by first | (with_reducible assumption) | assumption)
              obtain ⟨ad271, e271, hx271_0⟩ := Kd.at_int HR0.out x6_1 p271 q271
              obtain rfl : ad270 = ad271 := (by injection e271)
              replace p271 := eq_true p271
              replace q271 := eq_true q271
              have p272 : 0 ≤ (x6_1 : Int) := of_decide_eq_true (by first | (with_reducible assumption) | assumption)
              have q272 : x6_1 < (l0.length : Int) := of_decide_eq_true (by first | (with_reducible assumption) | assumption)
              obtain ⟨ad272, e272, hx272_0⟩ := Kd.at_int HR0.out x6_1 p272 q272
              obtain rfl : ad270 = ad272 := (by injection e272)
              replace p272 := eq_true p272
              replace q272 := eq_true q272
              go_wp2
              go_roundg k1
              case measure => have := HK1.out; omega
              case rel => exact ⟨(rd l0 x6_1), (wrap64 (x6_1 + 1)), (by first | rfl | (simp; done) | (simp [*]; done)), (by first | rfl | (simp; done) | (simp [*]; done)), H', ⟨by have := HK1.out; omega⟩, by repeat (first | exact Drawn0.refl _ | apply Drawn0.step)⟩
            · rw [if_neg c6] at H
              have c6b0 : decide (x5_1 < (rd l0 x6_1)) = false := decide_eq_false c6
              clear c6
              have H' := Aside0.mk H
              clear H
              have p270 : 0 ≤ (x6_1 : Int) := of_decide_eq_true (by first | (with_reducible assumption) | assumption)
              have q270 : x6_1 < (l0.length : Int) := of_decide_eq_true (by first | (with_reducible assumption) | assumption)
              obtain ⟨ad270, e270, hx270_0⟩ := Kd.at_int HR0.out x6_1 p270 q270
              cases e270
              replace p270 := eq_true p270
              replace q270 := eq_true q270
              have p271 : 0 ≤ (x6_1 : Int) := of_decide_eq_true (by first | (with_reducible assumption) | assumption)
              have q271 : x6_1 < (l0.length : Int) := of_decide_eq_true (by first | (with_reducible assumption) | assumption)
              obtain ⟨ad271, e271, hx271_0⟩ := Kd.at_int HR0.out x6_1 p271 q271
              obtain rfl : ad270 = ad271 := (by injection e271)
              replace p271 := eq_true p271
              replace q271 := eq_true q271
              go_wp2
              go_roundg k1
              case measure => have := HK1.out; omega
              case rel => exact ⟨(x5_1), (wrap64 (x6_1 + 1)), (by first | rfl | (simp; done) | (simp [*]; done)), (by first | rfl | (simp; done) | (simp [*]; done)), H', ⟨by have := HK1.out; omega⟩, by repeat (first | exact Drawn0.refl _ | apply Drawn0.step)⟩
          · rw [if_neg c5] at H
            have c5b0 : decide ((rd l0 x6_1) ≤ a1) = false := decide_eq_false c5
            clear c5
            have H' := Aside0.mk H
            clear H
            have p270 : 0 ≤ (x6_1 : Int) := of_decide_eq_true (by first | (with_reducible assumption) | assumption)
            have q270 : x6_1 < (l0.length : Int) := of_decide_eq_true (by first | (with_reducible assumption) | assumption)
            obtain ⟨ad270, e270, hx270_0⟩ := Kd.at_int HR0.out x6_1 p270 q270
            cases e270
            replace p270 := eq_true p270
            replace q270 := eq_true q270
            go_wp2
            go_roundg k1
            case measure => have := HK1.out; omega
            case rel => exact ⟨(x5_1), (wrap64 (x6_1 + 1)), (by first | rfl | (simp; done) | (simp [*]; done)), (by first | rfl | (simp; done) | (simp [*]; done)), H', ⟨by have := HK1.out; omega⟩, by repeat (first | exact Drawn0.refl _ | apply Drawn0.step)⟩
        · rw [if_neg c4] at H
          exact absurd H (by simp)
      · rw [if_neg c3] at H
        have c3b0 : decide (x6_1 < (l0.length : Int)) = false := decide_eq_false c3
        clear c3
        obtain rfl := Option.some.inj H
        go_wp2
        go_ret
        exact ⟨by first | rfl | (simp; done) | (simp [*]; done), by repeat (first | exact Drawn0.refl _ | apply Drawn0.step)⟩

end Go.Proofs.Ytmdcgkkkfncieaa.PFnRangeLattice
