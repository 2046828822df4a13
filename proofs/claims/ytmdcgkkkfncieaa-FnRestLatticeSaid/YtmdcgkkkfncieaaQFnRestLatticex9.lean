/- Functions of the program as plain Lean functions, and that calls of them come to what these tell. Conditions: those in each law. -/
import Derived.Test.YtmdcgkkkfncieaaSq
import Derived.Test.YtmdcgkkkfncieaaDFnRestLattice
import Derived.Test.YtmdcgkkkfncieaaQFnRestLatticex0
import Derived.Test.YtmdcgkkkfncieaaQFnRestLatticex1
import Derived.Test.YtmdcgkkkfncieaaQFnRestLatticex2
import Derived.Test.YtmdcgkkkfncieaaQFnRestLatticex3
import Derived.Test.YtmdcgkkkfncieaaQFnRestLatticex5
import Derived.Test.YtmdcgkkkfncieaaQFnRestLatticex8
namespace Go.Proofs.Ytmdcgkkkfncieaa.PFnRestLattice
open Go.RowKit Go.Proofs.Ytmdcgkkkfncieaa.Sq Go.Proofs.YtmdcgkkkfncieaaW.PrintWords Go.Proofs.YtmdcgkkkfncieaaW.PrintLast Go.Proofs.YtmdcgkkkfncieaaW.PrintMore
attribute [local go_sem] max2_int min2_int max_two min_two max_three min_three max_four min_four   -- for this text's walks alone
set_option linter.unusedVariables false
set_option linter.unusedSimpArgs false

attribute [local go_sem high] eqA62
/-! ### spec_RestJoin: function 58 -/
theorem spec_RestJoin.mono_l : ∀ k, (∀ y0 y1 y2 y3 y4, LeO (spec_RestJoin.j0 k y0 y1 y2 y3 y4) (spec_RestJoin.j0 (k + 1) y0 y1 y2 y3 y4))
  | 0 => fun _ _ _ _ _ r h => by simp [spec_RestJoin.j0] at h
  | k + 1 => by
    have ih0 := spec_RestJoin.mono_l k
    · intro y0 y1 y2 y3 y4
      unfold spec_RestJoin.j0
      repeat' first
      | (with_reducible exact ih0 _ _ _ _ _)
      | (with_reducible exact spec_l9Gcd.mono _ _ _)
      | (with_reducible exact spec_l9Make.mono _ _ _)
      | (with_reducible exact LeO.refl _)
      | (with_reducible exact LeO.none _)
      | (with_reducible refine LeO.ite ?_ ?_)
      | (with_reducible refine LeO.bind ?_ (fun _ => ?_))
      | exact ih0 _ _ _ _ _
      | exact spec_l9Gcd.mono _ _ _
      | exact spec_l9Make.mono _ _ _
      | exact LeO.none _
      | refine LeO.ite ?_ ?_
      | refine LeO.bind ?_ (fun _ => ?_)
theorem spec_RestJoin.mono : ∀ a0 a1 a2 a3 k, LeO (spec_RestJoin.f k a0 a1 a2 a3) (spec_RestJoin.f (k + 1) a0 a1 a2 a3) := by
  intro a0 a1 a2 a3 k
  have ih0 := spec_RestJoin.mono_l k
  unfold spec_RestJoin.f
  repeat' first
      | (with_reducible exact ih0 _ _ _ _ _)
      | (with_reducible exact spec_l9Gcd.mono _ _ _)
      | (with_reducible exact spec_l9Make.mono _ _ _)
      | (with_reducible exact LeO.refl _)
      | (with_reducible exact LeO.none _)
      | (with_reducible refine LeO.ite ?_ ?_)
      | (with_reducible refine LeO.bind ?_ (fun _ => ?_))
      | exact ih0 _ _ _ _ _
      | exact spec_l9Gcd.mono _ _ _
      | exact spec_l9Make.mono _ _ _
      | exact LeO.none _
      | refine LeO.ite ?_ ?_
      | refine LeO.bind ?_ (fun _ => ?_)
def spec_RestJoin.T3 : Bool × List (List Nat × List Nat) := (true, [([], []), ([0], [0]), ([], []), ([2], [2]), ([1, 3], [1, 3]), ([], []), ([5], [5]), ([], []), ([7], [7]), ([6, 8], [6, 8]), ([4, 9, 4], [4, 9]), ([], []), ([11], [11]), ([10, 12, 10], [10, 12]), ([13, 13, 0, 1, 2, 3, 4, 5, 6, 7, 8, 9, 10, 11, 12, 13], [13])])
def spec_RestJoin.B3 : List Nat := [0, 1, 0, 4, 15, 0, 32, 0, 128, 480, 1023, 0, 2048, 8191, 16383]
theorem spec_RestJoin.tab3 : rtab .any (opsOf Try.f58 3) = spec_RestJoin.T3 := by kernel_rfl
theorem spec_RestJoin.bits3 : waitsOk spec_RestJoin.T3.2 spec_RestJoin.B3 = true := by kernel_rfl
set_option maxHeartbeats 8000000 in
set_option maxRecDepth 100000 in
theorem spec_RestJoin.calls (k : Nat) (a0_0 : Int) (a0_1 : Int) (a1_0 : Int) (a1_1 : Int) (r1 : Int) (r2 : Int) (w : World) (h : spec_RestJoin.f k a0_0 a0_1 a1_0 a1_1 = some (r1, r2)) :
    Calls Try.prog 58 #[.agg #[.int .i64 a0_0, .int .i64 a0_1], .agg #[.int .i64 a1_0, .int .i64 a1_1]] w fun e w' => e = .returned (.agg #[.int .i64 r1, .int .i64 r2]) ∧ Below w.heap.size w w' := by
  have hu62 := Try.underlying62
  have HB := Aside0.mk (Below.refl w.heap.size w)
  have H : ((spec_RestOk.f a0_0 a0_1).bind fun t282 => (if t282 = true then ((spec_RestOk.f a1_0 a1_1).bind fun t283 => (spec_RestJoin.j0 k (!t283) a0_0 a0_1 a1_0 a1_1)) else (spec_RestJoin.j0 k true a0_0 a0_1 a1_0 a1_1))) = some (r1, r2) := h
  clear h
  have HC3 := Aside0.mk H
  clear H
  go_enter Try.func58, Try.ntmps58
  go_upto_region 1 with (first | ((with_reducible refine gate_dst (N := 2) rfl ?_); refine sqx 2 #[.int .i64 a0_0, .int .i64 a0_1] 62 ?_; intro gb279 hg w4 hbox hb; have BK279 := Aside0.mk (hbox); have GW279 := sqg HB hg; have GE279 := sqg HB hg; replace HB := sqs HB hb; clear hb hbox hg) | ((with_reducible refine gate_dst (N := 3) rfl ?_); refine sqx 3 #[.int .i64 a1_0, .int .i64 a1_1] 62 ?_; intro gb280 hg w5 hbox hb; have BK280 := Aside0.mk (hbox); have GW280 := sqg HB hg; have GE280 := sqg HB hg; have NB279_280 := sqn BK279 hg; have NB280_279 := sqm BK279 hg; replace BK279 := sqb BK279 hb; replace HB := sqs HB hb; clear hb hbox hg) | ((with_reducible refine gate_dst (N := 4) rfl ?_); refine sqx 4 #[.int .i64 0, .int .i64 0] 62 ?_; intro gb281 hg w6 hbox hb; have BK281 := Aside0.mk (hbox); have GW281 := sqg HB hg; have GE281 := sqg HB hg; have NB279_281 := sqn BK279 hg; have NB281_279 := sqm BK279 hg; have NB280_281 := sqn BK280 hg; have NB281_280 := sqm BK280 hg; replace BK279 := sqb BK279 hb; replace BK280 := sqb BK280 hb; replace HB := sqs HB hb; clear hb hbox hg))
  (try simp only [Act.put, List.setIfInBounds_toArray, List.set_cons_zero, List.set_cons_succ])
  go_cut [12] (fun v12 wc => ∃ (kq : Nat) (x12_2 : Bool), v12 = .bool x12_2 ∧ Aside0 (spec_RestJoin.j0 kq x12_2 a0_0 a0_1 a1_0 a1_1 = some (r1, r2)) ∧ Aside0 (kq ≤ k) ∧ Aside0 (wc.heap[gb279]? = some (.cells #[.int .i64 a0_0, .int .i64 a0_1] 62 (0, 0))) ∧ Aside0 (wc.heap[gb280]? = some (.cells #[.int .i64 a1_0, .int .i64 a1_1] 62 (0, 0))) ∧ Aside0 (wc.heap[gb281]? = some (.cells #[.int .i64 0, .int .i64 0] 62 (0, 0))) ∧ Aside0 (Below w.heap.size w wc))
  case first =>
    have H := HC3.out
    clear HC3
    replace H := Option.bind_eq_some_iff.mp H
    obtain ⟨t282, A70, H⟩ := H
    replace H : (if t282 = true then ((spec_RestOk.f a1_0 a1_1).bind fun t283 => (spec_RestJoin.j0 k (!t283) a0_0 a0_1 a1_0 a1_1)) else (spec_RestJoin.j0 k true a0_0 a0_1 a1_0 a1_1)) = some (r1, r2) := H
    have A7 := Aside0.mk A70
    clear A70
    by_cases c8 : t282 = true
    · subst c8
      have H1 : ((spec_RestOk.f a1_0 a1_1).bind fun t283 => (spec_RestJoin.j0 k (!t283) a0_0 a0_1 a1_0 a1_1)) = some (r1, r2) := by rw [if_pos rfl] at H; exact H
      clear H
      have H := H1
      clear H1
      replace H := Option.bind_eq_some_iff.mp H
      obtain ⟨t283, A90, H⟩ := H
      replace H : (spec_RestJoin.j0 k (!t283) a0_0 a0_1 a1_0 a1_1) = some (r1, r2) := H
      have A9 := Aside0.mk A90
      clear A90
      have H' := Aside0.mk H
      clear H
      have hnb10 := NB279_280.out
      have hnc10 := NB280_279.out
      have hnb11 := NB279_281.out
      have hnc11 := NB281_279.out
      obtain ⟨hcz12_0, hcz12_1, hfz12_0, hfz12_1⟩ := sqc2 BK279
      go_wp2_with (first | ((with_reducible refine gate_callee (f := 59) rfl ?_); refine sqL (some 6) Try.func59 #[.agg #[.int .i64 a0_0, .int .i64 a0_1]] ?_; (with_reducible refine (spec_RestOk.calls a0_0 a0_1 true _ A7.out).mono ?_); rintro e w13 ⟨rfl, hb⟩; refine ⟨_, rfl, ?_⟩; replace BK279 := sqb BK279 hb; replace BK280 := sqb BK280 hb; replace BK281 := sqb BK281 hb; replace HB := sqs HB hb; (try clear hb); have hnb14 := NB280_281.out; have hnc14 := NB281_280.out; obtain ⟨hcz15_0, hcz15_1, hfz15_0, hfz15_1⟩ := sqc2 BK280) | (go_at_call 59; (with_reducible refine (spec_RestOk.calls a1_0 a1_1 t283 _ A9.out).mono ?_); rintro e w16 ⟨rfl, hb⟩; replace BK279 := sqb BK279 hb; replace BK280 := sqb BK280 hb; replace BK281 := sqb BK281 hb; replace HB := sqs HB hb; (try clear hb)))
      go_meet
      case rel => exact ⟨_, (!t283), (by first | rfl | (simp; done) | (simp [*]; done)), H', ⟨by first | omega | exact Nat.le_refl _⟩, sqk BK279, sqk BK280, sqk BK281, sqh HB⟩
    · replace c8 := Bool.eq_false_iff.mpr c8
      subst c8
      have H1 : (spec_RestJoin.j0 k true a0_0 a0_1 a1_0 a1_1) = some (r1, r2) := by rw [if_neg (show ¬ (false = true) by decide)] at H; exact H
      clear H
      have H := H1
      clear H1
      have H' := Aside0.mk H
      clear H
      have hnb17 := NB279_280.out
      have hnc17 := NB280_279.out
      have hnb18 := NB279_281.out
      have hnc18 := NB281_279.out
      obtain ⟨hcz19_0, hcz19_1, hfz19_0, hfz19_1⟩ := sqc2 BK279
      go_wp2_with (first | ((with_reducible refine gate_callee (f := 59) rfl ?_); refine sqL (some 6) Try.func59 #[.agg #[.int .i64 a0_0, .int .i64 a0_1]] ?_; (with_reducible refine (spec_RestOk.calls a0_0 a0_1 false _ A7.out).mono ?_); rintro e w20 ⟨rfl, hb⟩; refine ⟨_, rfl, ?_⟩; replace BK279 := sqb BK279 hb; replace BK280 := sqb BK280 hb; replace BK281 := sqb BK281 hb; replace HB := sqs HB hb; (try clear hb)))
      go_meet
      case rel => exact ⟨_, (true), (by first | rfl | (simp; done) | (simp [*]; done)), H', ⟨by first | omega | exact Nat.le_refl _⟩, sqk BK279, sqk BK280, sqk BK281, sqh HB⟩
  case rest =>
    clear HC3
    obtain ⟨kq, x12_2, rfl, HA, HJ2, BK279, BK280, BK281, HB⟩ := hcut
    cases kq with
    | zero => exact absurd HA.out (by simp [spec_RestJoin.j0])
    | succ kj2 =>
      have H := HA.out
      clear HA
      simp only [spec_RestJoin.j0] at H
      by_cases c21 : x12_2 = true
      · subst c21
        have H1 : ((spec_l9All.f).bind fun bt284 => (some (bt284.1, bt284.2))) = some (r1, r2) := by rw [if_pos rfl] at H; exact H
        clear H
        have H := H1
        clear H1
        replace H := Option.bind_eq_some_iff.mp H
        obtain ⟨⟨t284, t285⟩, A220, H⟩ := H
        replace H : (some (t284, t285)) = some (r1, r2) := H
        have A22 := Aside0.mk A220
        clear A220
        simp only [Option.some.injEq, Prod.mk.injEq] at H
        obtain ⟨rfl, rfl⟩ := H
        go_wp2_with (first | ((with_reducible refine gate_callee (f := 110) rfl ?_); refine sqL (some 13) Try.func110 #[] ?_; (with_reducible refine (spec_l9All.calls  t284 t285 _ A22.out).mono ?_); rintro e w23 ⟨rfl, hb⟩; refine ⟨_, rfl, ?_⟩; replace BK279 := sqb BK279 hb; replace BK280 := sqb BK280 hb; replace BK281 := sqb BK281 hb; replace HB := sqs HB hb; (try clear hb); have hnb24 := NB281_279.out; have hnc24 := NB279_281.out; have hnb25 := NB281_280.out; have hnc25 := NB280_281.out; obtain ⟨hcz26_0, hcz26_1, hfz26_0, hfz26_1⟩ := sqc2 BK281))
        refine bodyPost_ret (results_cell_row rfl _ _ gb281 62 #[.int .i64 t284, .int .i64 t285] (0, 0) _ rfl (by refine sqt ?_; refine blk_put (cs := #[.int .i64 t284, .int .i64 0]) ?_ 1 _ rfl; refine sqt ?_; refine blk_put (cs := #[.int .i64 0, .int .i64 0]) ?_ 0 _ rfl; refine sqt ?_; exact BK281.out) Try.underlying62 rfl (by kernel_rfl)) rfl ?_
        exact sqe HB
      · replace c21 := Bool.eq_false_iff.mpr c21
        subst c21
        have H1 : ((spec_l9Gcd.f kj2 a0_0 a1_0).bind fun t286 => ((spec_l9Gcd.f kj2 t286 (wrap64 (a0_1 - a1_1))).bind fun t287 => ((spec_l9Make.f kj2 t287 a0_1).bind fun bt288 => (some (bt288.1, bt288.2))))) = some (r1, r2) := by rw [if_neg (show ¬ (false = true) by decide)] at H; exact H
        clear H
        have H := H1
        clear H1
        replace H := Option.bind_eq_some_iff.mp H
        obtain ⟨t286, A270, H⟩ := H
        replace H : ((spec_l9Gcd.f kj2 t286 (wrap64 (a0_1 - a1_1))).bind fun t287 => ((spec_l9Make.f kj2 t287 a0_1).bind fun bt288 => (some (bt288.1, bt288.2)))) = some (r1, r2) := H
        have A27 := Aside0.mk A270
        clear A270
        replace H := Option.bind_eq_some_iff.mp H
        obtain ⟨t287, A280, H⟩ := H
        replace H : ((spec_l9Make.f kj2 t287 a0_1).bind fun bt288 => (some (bt288.1, bt288.2))) = some (r1, r2) := H
        have A28 := Aside0.mk A280
        clear A280
        replace H := Option.bind_eq_some_iff.mp H
        obtain ⟨⟨t288, t289⟩, A290, H⟩ := H
        replace H : (some (t288, t289)) = some (r1, r2) := H
        have A29 := Aside0.mk A290
        clear A290
        simp only [Option.some.injEq, Prod.mk.injEq] at H
        obtain ⟨rfl, rfl⟩ := H
        try go_wp2
        replace BK279 := Aside0.mk (blk_drew BK279.out)
        replace BK280 := Aside0.mk (blk_drew BK280.out)
        replace BK281 := Aside0.mk (blk_drew BK281.out)
        replace HB := Aside0.mk (below_drew1 HB.out)
        refine start_ (n := 15) (S := fun w' => w'.cell? ⟨gb279, 0, none⟩ = some (.int .i64 a0_0) ∧ w'.cell? ⟨gb279, 1, none⟩ = some (.int .i64 a0_1) ∧ w'.cell? ⟨gb280, 0, none⟩ = some (.int .i64 a1_0) ∧ w'.cell? ⟨gb280, 1, none⟩ = some (.int .i64 a1_1)) (ds := []) #[false, false, false, false, false, false, false, false, false, false, false, false, false, false, false] (by kernel_rfl) rfl rfl ⟨(blk_cell BK279.out 0).trans rfl, (blk_cell BK279.out 1).trans rfl, (blk_cell BK280.out 0).trans rfl, (blk_cell BK280.out 1).trans rfl⟩ (fun hHeld => ?_); refine with_tabW spec_RestJoin.tab3 spec_RestJoin.bits3 (fun HT_ HW_ => ?_)
        generalize wc.drew = w30 at BK279 BK280 BK281 HB hHeld ⊢
        refine sqp HT_ 0 14 ?_
        refine sqp HT_ 2 16 ?_
        refine sqp HT_ 5 19 ?_
        refine sqp HT_ 7 21 ?_
        refine sqp HT_ 11 25 ?_
        refine sqw HT_ HW_ 1 15 hHeld ?_
        refine sqw HT_ HW_ 3 17 hHeld ?_
        refine sqw HT_ HW_ 6 20 hHeld ?_
        refine sqw HT_ HW_ 8 22 hHeld ?_
        refine sqp HT_ 9 23 ?_
        refine sqw HT_ HW_ 12 26 hHeld ?_
        refine sqo HT_ 4 18 (fun K hK => ?_)
        refine sqG Try.func109 #[.int .i64 a0_0, .int .i64 a1_0] ?_
        with_reducible refine (spec_l9Gcd.calls kj2 a0_0 a1_0 t286 _ A27.out).mono ?_
        rintro e w' ⟨rfl, ⟨nd, rfl⟩⟩
        refine ⟨_, rfl, ?_⟩
        refine hK.out _ _ sqz (fun hHeld => ?_)
        clear hK K
        refine sqnm ?_
        refine sqo HT_ 10 24 (fun K hK => ?_)
        refine sqG Try.func109 #[.int .i64 t286, .int .i64 (wrap64 (a0_1 - a1_1))] ?_
        with_reducible refine (spec_l9Gcd.calls kj2 t286 (wrap64 (a0_1 - a1_1)) t287 _ A28.out).mono ?_
        rintro e w' ⟨rfl, ⟨nd, rfl⟩⟩
        refine ⟨_, rfl, ?_⟩
        refine hK.out _ _ sqz (fun hHeld => ?_)
        clear hK K
        refine sqnm ?_
        refine sqo HT_ 13 27 (fun K hK => ?_)
        refine sqG Try.func111 #[.int .i64 t287, .int .i64 a0_1] ?_
        with_reducible refine (spec_l9Make.calls kj2 t287 a0_1 t288 t289 _ A29.out).mono ?_
        rintro e w31 ⟨rfl, hb⟩
        refine ⟨_, rfl, ?_⟩
        replace BK279 := sqb BK279 hb
        replace BK280 := sqb BK280 hb
        replace BK281 := sqb BK281 hb
        replace HB := sqs HB hb
        (try clear hb)
        refine hK.out _ _ sqz (fun hHeld => ?_)
        clear hK K
        refine sqnm ?_
        refine one_ (i := 14) (N := none) #[true, true, true, true, true, true, true, true, true, true, true, true, true, true, true] rfl rfl (one_of HT_.out (by kernel_rfl)) (by decide) (fun K hK => ?_)
        have hs32 : w31.cell? ⟨gb281, 0, none⟩ = some (.int .i64 0) := (blk_cell BK281.out 0).trans rfl
        have hfs32 := blk_frozen BK281.out 0
        have hns32_0 := NB279_281.out
        have hns32_1 := NB280_281.out
        have hms32_0 := NB281_279.out
        have hms32_1 := NB281_280.out
        have hs33 : w31.cell? ⟨gb281, 1, none⟩ = some (.int .i64 0) := (blk_cell BK281.out 1).trans rfl
        have hfs33 := blk_frozen BK281.out 1
        have hns33_0 := NB279_281.out
        have hns33_1 := NB280_281.out
        have hms33_0 := NB281_279.out
        have hms33_1 := NB281_280.out
        refine skip_ (w1 := ?_) (by rfl) rfl ?_ ?_
        rotate_left
        · go_simp
          rfl
        refine hK.out _ _ ⟨((cell_far (p := ⟨gb281, _, none⟩) NB279_281.out _).trans (((cell_far (p := ⟨gb281, _, none⟩) NB279_281.out _).trans (hHeld.1)))), ((cell_far (p := ⟨gb281, _, none⟩) NB279_281.out _).trans (((cell_far (p := ⟨gb281, _, none⟩) NB279_281.out _).trans (hHeld.2.1)))), ((cell_far (p := ⟨gb281, _, none⟩) NB280_281.out _).trans (((cell_far (p := ⟨gb281, _, none⟩) NB280_281.out _).trans (hHeld.2.2.1)))), ((cell_far (p := ⟨gb281, _, none⟩) NB280_281.out _).trans (((cell_far (p := ⟨gb281, _, none⟩) NB280_281.out _).trans (hHeld.2.2.2))))⟩ (fun hHeld => ?_)
        clear hK K
        refine done_ (done_of HT_.out (by kernel_rfl)) ?_
        try go_wp2
        refine bodyPost_ret (results_cell_row rfl _ _ gb281 62 #[.int .i64 t288, .int .i64 t289] (0, 0) _ rfl (by refine sqt ?_; refine blk_put (cs := #[.int .i64 t288, .int .i64 0]) ?_ 1 _ rfl; refine sqt ?_; refine blk_put (cs := #[.int .i64 0, .int .i64 0]) ?_ 0 _ rfl; refine sqt ?_; exact BK281.out) Try.underlying62 rfl (by kernel_rfl)) rfl ?_
        exact sqe HB

/-! ### impl_RestIn: function 60 -/
theorem impl_RestIn.mono_l : ∀ k, (∀ y0 y1 y2 y3 y4, LeO (impl_RestIn.j0 k y0 y1 y2 y3 y4) (impl_RestIn.j0 (k + 1) y0 y1 y2 y3 y4))
  | 0 => fun _ _ _ _ _ r h => by simp [impl_RestIn.j0] at h
  | k + 1 => by
    have ih0 := impl_RestIn.mono_l k
    · intro y0 y1 y2 y3 y4
      unfold impl_RestIn.j0
      repeat' first
      | (with_reducible exact ih0 _ _ _ _ _)
      | (with_reducible exact LeO.refl _)
      | (with_reducible exact LeO.none _)
      | (with_reducible refine LeO.ite ?_ ?_)
      | (with_reducible refine LeO.bind ?_ (fun _ => ?_))
      | exact ih0 _ _ _ _ _
      | exact LeO.none _
      | refine LeO.ite ?_ ?_
      | refine LeO.bind ?_ (fun _ => ?_)
theorem impl_RestIn.mono : ∀ a0 a1 a2 a3 k, LeO (impl_RestIn.f k a0 a1 a2 a3) (impl_RestIn.f (k + 1) a0 a1 a2 a3) := by
  intro a0 a1 a2 a3 k
  have ih0 := impl_RestIn.mono_l k
  unfold impl_RestIn.f
  repeat' first
      | (with_reducible exact ih0 _ _ _ _ _)
      | (with_reducible exact LeO.refl _)
      | (with_reducible exact LeO.none _)
      | (with_reducible refine LeO.ite ?_ ?_)
      | (with_reducible refine LeO.bind ?_ (fun _ => ?_))
      | exact ih0 _ _ _ _ _
      | exact LeO.none _
      | refine LeO.ite ?_ ?_
      | refine LeO.bind ?_ (fun _ => ?_)
set_option maxHeartbeats 8000000 in
set_option maxRecDepth 100000 in
theorem impl_RestIn.calls (k : Nat) (a0_0 : Int) (a0_1 : Int) (a1_0 : Int) (a1_1 : Int) (r : Bool) (w : World) (h : impl_RestIn.f k a0_0 a0_1 a1_0 a1_1 = some r) :
    Calls Try.prog 60 #[.agg #[.int .i64 a0_0, .int .i64 a0_1], .agg #[.int .i64 a1_0, .int .i64 a1_1]] w fun e w' => e = .returned (.bool r) ∧ Below w.heap.size w w' := by
  have hu62 := Try.underlying62
  have HB := Aside0.mk (Below.refl w.heap.size w)
  have H : ((impl_RestOk.f a0_0 a0_1).bind fun t292 => (if t292 = true then ((impl_RestOk.f a1_0 a1_1).bind fun t293 => (impl_RestIn.j0 k (!t293) a0_0 a0_1 a1_0 a1_1)) else (impl_RestIn.j0 k true a0_0 a0_1 a1_0 a1_1))) = some r := h
  clear h
  have HC3 := Aside0.mk H
  clear H
  go_enter Try.func60, Try.ntmps60
  go_upto_region 1 with (first | ((with_reducible refine gate_dst (N := 2) rfl ?_); refine sqx 2 #[.int .i64 a0_0, .int .i64 a0_1] 62 ?_; intro gb290 hg w4 hbox hb; have BK290 := Aside0.mk (hbox); have GW290 := sqg HB hg; have GE290 := sqg HB hg; replace HB := sqs HB hb; clear hb hbox hg) | ((with_reducible refine gate_dst (N := 3) rfl ?_); refine sqx 3 #[.int .i64 a1_0, .int .i64 a1_1] 62 ?_; intro gb291 hg w5 hbox hb; have BK291 := Aside0.mk (hbox); have GW291 := sqg HB hg; have GE291 := sqg HB hg; have NB290_291 := sqn BK290 hg; have NB291_290 := sqm BK290 hg; replace BK290 := sqb BK290 hb; replace HB := sqs HB hb; clear hb hbox hg))
  repeat (go_quiet (first | ((with_reducible refine gate_dst (N := 2) rfl ?_); refine sqx 2 #[.int .i64 a0_0, .int .i64 a0_1] 62 ?_; intro gb290 hg w4 hbox hb; have BK290 := Aside0.mk (hbox); have GW290 := sqg HB hg; have GE290 := sqg HB hg; replace HB := sqs HB hb; clear hb hbox hg) | ((with_reducible refine gate_dst (N := 3) rfl ?_); refine sqx 3 #[.int .i64 a1_0, .int .i64 a1_1] 62 ?_; intro gb291 hg w5 hbox hb; have BK291 := Aside0.mk (hbox); have GW291 := sqg HB hg; have GE291 := sqg HB hg; have NB290_291 := sqn BK290 hg; have NB291_290 := sqm BK290 hg; replace BK290 := sqb BK290 hb; replace HB := sqs HB hb; clear hb hbox hg)); go_upto_region 1 with (first | ((with_reducible refine gate_dst (N := 2) rfl ?_); refine sqx 2 #[.int .i64 a0_0, .int .i64 a0_1] 62 ?_; intro gb290 hg w4 hbox hb; have BK290 := Aside0.mk (hbox); have GW290 := sqg HB hg; have GE290 := sqg HB hg; replace HB := sqs HB hb; clear hb hbox hg) | ((with_reducible refine gate_dst (N := 3) rfl ?_); refine sqx 3 #[.int .i64 a1_0, .int .i64 a1_1] 62 ?_; intro gb291 hg w5 hbox hb; have BK291 := Aside0.mk (hbox); have GW291 := sqg HB hg; have GE291 := sqg HB hg; have NB290_291 := sqn BK290 hg; have NB291_290 := sqm BK290 hg; replace BK290 := sqb BK290 hb; replace HB := sqs HB hb; clear hb hbox hg)))
  (try simp only [Act.put, List.setIfInBounds_toArray, List.set_cons_zero, List.set_cons_succ])
  go_cut [12] (fun v12 wc => ∃ (kq : Nat) (x12_2 : Bool), v12 = .bool x12_2 ∧ Aside0 (impl_RestIn.j0 kq x12_2 a0_0 a0_1 a1_0 a1_1 = some r) ∧ Aside0 (kq ≤ k) ∧ Aside0 (wc.heap[gb290]? = some (.cells #[.int .i64 a0_0, .int .i64 a0_1] 62 (0, 0))) ∧ Aside0 (wc.heap[gb291]? = some (.cells #[.int .i64 a1_0, .int .i64 a1_1] 62 (0, 0))) ∧ Aside0 (Below w.heap.size w wc))
  case first =>
    have H := HC3.out
    clear HC3
    replace H := Option.bind_eq_some_iff.mp H
    obtain ⟨t292, A60, H⟩ := H
    replace H : (if t292 = true then ((impl_RestOk.f a1_0 a1_1).bind fun t293 => (impl_RestIn.j0 k (!t293) a0_0 a0_1 a1_0 a1_1)) else (impl_RestIn.j0 k true a0_0 a0_1 a1_0 a1_1)) = some r := H
    have A6 := Aside0.mk A60
    clear A60
    by_cases c7 : t292 = true
    · subst c7
      have H1 : ((impl_RestOk.f a1_0 a1_1).bind fun t293 => (impl_RestIn.j0 k (!t293) a0_0 a0_1 a1_0 a1_1)) = some r := by rw [if_pos rfl] at H; exact H
      clear H
      have H := H1
      clear H1
      replace H := Option.bind_eq_some_iff.mp H
      obtain ⟨t293, A80, H⟩ := H
      replace H : (impl_RestIn.j0 k (!t293) a0_0 a0_1 a1_0 a1_1) = some r := H
      have A8 := Aside0.mk A80
      clear A80
      have H' := Aside0.mk H
      clear H
      have hnb9 := NB290_291.out
      have hnc9 := NB291_290.out
      obtain ⟨hcz10_0, hcz10_1, hfz10_0, hfz10_1⟩ := sqc2 BK290
      go_wp2_with (first | (go_at_call 61; (with_reducible refine (impl_RestOk.calls a0_0 a0_1 true _ A6.out).mono ?_); rintro e w11 ⟨rfl, hb⟩; replace BK290 := sqb BK290 hb; replace BK291 := sqb BK291 hb; replace HB := sqs HB hb; (try clear hb); obtain ⟨hcz12_0, hcz12_1, hfz12_0, hfz12_1⟩ := sqc2 BK291) | (go_at_call 61; (with_reducible refine (impl_RestOk.calls a1_0 a1_1 t293 _ A8.out).mono ?_); rintro e w13 ⟨rfl, hb⟩; replace BK290 := sqb BK290 hb; replace BK291 := sqb BK291 hb; replace HB := sqs HB hb; (try clear hb)))
      repeat (go_quiet (first | (go_at_call 61; (with_reducible refine (impl_RestOk.calls a0_0 a0_1 true _ A6.out).mono ?_); rintro e w11 ⟨rfl, hb⟩; replace BK290 := sqb BK290 hb; replace BK291 := sqb BK291 hb; replace HB := sqs HB hb; (try clear hb); obtain ⟨hcz12_0, hcz12_1, hfz12_0, hfz12_1⟩ := sqc2 BK291) | (go_at_call 61; (with_reducible refine (impl_RestOk.calls a1_0 a1_1 t293 _ A8.out).mono ?_); rintro e w13 ⟨rfl, hb⟩; replace BK290 := sqb BK290 hb; replace BK291 := sqb BK291 hb; replace HB := sqs HB hb; (try clear hb))); try go_wp2_with (first | (go_at_call 61; (with_reducible refine (impl_RestOk.calls a0_0 a0_1 true _ A6.out).mono ?_); rintro e w11 ⟨rfl, hb⟩; replace BK290 := sqb BK290 hb; replace BK291 := sqb BK291 hb; replace HB := sqs HB hb; (try clear hb); obtain ⟨hcz12_0, hcz12_1, hfz12_0, hfz12_1⟩ := sqc2 BK291) | (go_at_call 61; (with_reducible refine (impl_RestOk.calls a1_0 a1_1 t293 _ A8.out).mono ?_); rintro e w13 ⟨rfl, hb⟩; replace BK290 := sqb BK290 hb; replace BK291 := sqb BK291 hb; replace HB := sqs HB hb; (try clear hb))))
      go_meet
      case rel => exact ⟨_, (!t293), (by first | rfl | (simp; done) | (simp [*]; done)), H', ⟨by first | omega | exact Nat.le_refl _⟩, sqk BK290, sqk BK291, sqh HB⟩
    · replace c7 := Bool.eq_false_iff.mpr c7
      subst c7
      have H1 : (impl_RestIn.j0 k true a0_0 a0_1 a1_0 a1_1) = some r := by rw [if_neg (show ¬ (false = true) by decide)] at H; exact H
      clear H
      have H := H1
      clear H1
      have H' := Aside0.mk H
      clear H
      have hnb14 := NB290_291.out
      have hnc14 := NB291_290.out
      obtain ⟨hcz15_0, hcz15_1, hfz15_0, hfz15_1⟩ := sqc2 BK290
      go_wp2_with (first | (go_at_call 61; (with_reducible refine (impl_RestOk.calls a0_0 a0_1 false _ A6.out).mono ?_); rintro e w16 ⟨rfl, hb⟩; replace BK290 := sqb BK290 hb; replace BK291 := sqb BK291 hb; replace HB := sqs HB hb; (try clear hb)))
      repeat (go_quiet (first | (go_at_call 61; (with_reducible refine (impl_RestOk.calls a0_0 a0_1 false _ A6.out).mono ?_); rintro e w16 ⟨rfl, hb⟩; replace BK290 := sqb BK290 hb; replace BK291 := sqb BK291 hb; replace HB := sqs HB hb; (try clear hb))); try go_wp2_with (first | (go_at_call 61; (with_reducible refine (impl_RestOk.calls a0_0 a0_1 false _ A6.out).mono ?_); rintro e w16 ⟨rfl, hb⟩; replace BK290 := sqb BK290 hb; replace BK291 := sqb BK291 hb; replace HB := sqs HB hb; (try clear hb))))
      go_meet
      case rel => exact ⟨_, (true), (by first | rfl | (simp; done) | (simp [*]; done)), H', ⟨by first | omega | exact Nat.le_refl _⟩, sqk BK290, sqk BK291, sqh HB⟩
  case rest =>
    clear HC3
    obtain ⟨kq, x12_2, rfl, HA, HJ2, BK290, BK291, HB⟩ := hcut
    cases kq with
    | zero => exact absurd HA.out (by simp [impl_RestIn.j0])
    | succ kj2 =>
      have H := HA.out
      clear HA
      simp only [impl_RestIn.j0] at H
      by_cases c17 : x12_2 = true
      · subst c17
        have H1 : (some false) = some r := by rw [if_pos rfl] at H; exact H
        clear H
        have H := H1
        clear H1
        obtain rfl := Option.some.inj H
        go_wp2
        repeat (go_quiet (fail); try go_wp2)
        go_ret
        exact sqe HB
      · replace c17 := Bool.eq_false_iff.mpr c17
        subst c17
        have H1 : (if a1_0 = 0 then (some (a0_0 == a1_0 && (a0_1 == a1_1))) else (if (Int.tmod a0_0 a1_0) = 0 then ((impl_restMod.f a0_1 a1_0).bind fun t294 => (some (t294 == a1_1))) else (some false))) = some r := by rw [if_neg (show ¬ (false = true) by decide)] at H; exact H
        clear H
        have H := H1
        clear H1
        by_cases c18 : a1_0 = 0
        · rw [if_pos c18] at H
          have c18b0 : (a1_0 == 0) = true := beq_iff_eq.mpr c18
          have c18b1 : (a1_0 != 0) = false := bne_eq_false_iff_eq.mpr c18
          clear c18
          obtain rfl := Option.some.inj H
          have hnb19 := NB291_290.out
          have hnc19 := NB290_291.out
          obtain ⟨hcz20_0, hcz20_1, hfz20_0, hfz20_1⟩ := sqc2 BK291
          obtain ⟨hcz21_0, hcz21_1, hfz21_0, hfz21_1⟩ := sqc2 BK290
          go_wp2
          repeat (go_quiet (fail); try go_wp2)
          go_ret
          exact sqe HB
        · rw [if_neg c18] at H
          have c18b0 : (a1_0 == 0) = false := beq_eq_false_iff_ne.mpr c18
          have c18b1 : (a1_0 != 0) = true := bne_iff_ne.mpr c18
          by_cases c22 : (Int.tmod a0_0 a1_0) = 0
          · rw [if_pos c22] at H
            have c22b0 : ((Int.tmod a0_0 a1_0) == 0) = true := beq_iff_eq.mpr c22
            have c22b1 : ((Int.tmod a0_0 a1_0) != 0) = false := bne_eq_false_iff_eq.mpr c22
            clear c22
            replace H := Option.bind_eq_some_iff.mp H
            obtain ⟨t294, A230, H⟩ := H
            replace H : (some (t294 == a1_1)) = some r := H
            have A23 := Aside0.mk A230
            clear A230
            obtain rfl := Option.some.inj H
            have hnb24 := NB291_290.out
            have hnc24 := NB290_291.out
            obtain ⟨hcz25_0, hcz25_1, hfz25_0, hfz25_1⟩ := sqc2 BK291
            obtain ⟨hcz26_0, hcz26_1, hfz26_0, hfz26_1⟩ := sqc2 BK290
            go_wp2_with (first | (go_at_call 108; (with_reducible refine (impl_restMod.calls a0_1 a1_0 t294 _ A23.out).mono ?_); rintro e w' ⟨rfl, ⟨nd, rfl⟩⟩; (try first | exact ⟨rfl, _, World.drewN_drewN _ _ _⟩ | exact ⟨rfl, _, Eq.trans (World.drewN_drewN _ _ _) (congrArg (World.drewN _) (Nat.add_assoc _ _ _))⟩)))
            repeat (go_quiet (first | (go_at_call 108; (with_reducible refine (impl_restMod.calls a0_1 a1_0 t294 _ A23.out).mono ?_); rintro e w' ⟨rfl, ⟨nd, rfl⟩⟩; (try first | exact ⟨rfl, _, World.drewN_drewN _ _ _⟩ | exact ⟨rfl, _, Eq.trans (World.drewN_drewN _ _ _) (congrArg (World.drewN _) (Nat.add_assoc _ _ _))⟩))); try go_wp2_with (first | (go_at_call 108; (with_reducible refine (impl_restMod.calls a0_1 a1_0 t294 _ A23.out).mono ?_); rintro e w' ⟨rfl, ⟨nd, rfl⟩⟩; (try first | exact ⟨rfl, _, World.drewN_drewN _ _ _⟩ | exact ⟨rfl, _, Eq.trans (World.drewN_drewN _ _ _) (congrArg (World.drewN _) (Nat.add_assoc _ _ _))⟩))))
            go_ret
            exact sqe HB
          · rw [if_neg c22] at H
            have c22b0 : ((Int.tmod a0_0 a1_0) == 0) = false := beq_eq_false_iff_ne.mpr c22
            have c22b1 : ((Int.tmod a0_0 a1_0) != 0) = true := bne_iff_ne.mpr c22
            obtain rfl := Option.some.inj H
            have hnb27 := NB291_290.out
            have hnc27 := NB290_291.out
            obtain ⟨hcz28_0, hcz28_1, hfz28_0, hfz28_1⟩ := sqc2 BK291
            obtain ⟨hcz29_0, hcz29_1, hfz29_0, hfz29_1⟩ := sqc2 BK290
            go_wp2
            repeat (go_quiet (fail); try go_wp2)
            go_ret
            exact sqe HB

/-! ### laws_at: function 38 -/
set_option maxHeartbeats 8000000 in
set_option maxRecDepth 100000 in
theorem laws_at.calls (A0 : Option Addr) (c0 : Nat) (l0 : List Int) (a1 : Int) (r : Int) (w : World) (hr0 : Kd.C (Kd.int .u8) w A0 l0.length l0) (hc0 : l0.length ≤ c0) (h : laws_at.f l0 a1 = some r) :
    Calls Try.prog 38 #[.slice A0 l0.length c0, .int .i64 a1] w fun e w' => e = .returned (.int .u8 r) ∧ Drawn0 w w' := by
  have HR0 := Aside0.mk hr0
  have HC0 := Aside0.mk hc0
  clear hr0 hc0
  have H : (if (l0.length : Int) = 0 then (some ((wrap64 (a1 * 37)) % 256)) else (if a1 < (l0.length : Int) then (if 0 ≤ a1 then (some (rd l0 a1)) else (none)) else (if 0 ≤ (Int.tmod a1 (l0.length : Int)) then (if (Int.tmod a1 (l0.length : Int)) < (l0.length : Int) then (if 0 ≤ (Int.tmod (wrap64 ((wrap64 (a1 * 5)) + 1)) (l0.length : Int)) then (if (Int.tmod (wrap64 ((wrap64 (a1 * 5)) + 1)) (l0.length : Int)) < (l0.length : Int) then (some (((((((rd l0 (Int.tmod a1 (l0.length : Int))) * 31) % 256) + (rd l0 (Int.tmod (wrap64 ((wrap64 (a1 * 5)) + 1)) (l0.length : Int)))) % 256) + ((a1) % 256)) % 256)) else (none)) else (none)) else (none)) else (none)))) = some r := h
  clear h
  by_cases c3 : (l0.length : Int) = 0
  · rw [if_pos c3] at H
    have c3b0 : ((l0.length : Int) == 0) = true := beq_iff_eq.mpr c3
    have c3b1 : ((l0.length : Int) != 0) = false := bne_eq_false_iff_eq.mpr c3
    clear c3
    obtain rfl := Option.some.inj H
    go_enter Try.func38, Try.ntmps38
    go_wp2
    repeat (go_quiet (fail); try go_wp2)
    go_ret
    exact ⟨by first | rfl | (simp; done) | (simp [*]; done), by repeat (first | exact Drawn0.refl _ | apply Drawn0.step)⟩
  · rw [if_neg c3] at H
    have c3b0 : ((l0.length : Int) == 0) = false := beq_eq_false_iff_ne.mpr c3
    have c3b1 : ((l0.length : Int) != 0) = true := bne_iff_ne.mpr c3
    have c3b2 : ¬ (l0 = []) := fun h_ => c3 (by rw [h_]; rfl)
    by_cases c4 : a1 < (l0.length : Int)
    · rw [if_pos c4] at H
      have c4b0 : decide (a1 < (l0.length : Int)) = true := decide_eq_true c4
      clear c4
      by_cases c5 : 0 ≤ a1
      · rw [if_pos c5] at H
        have c5b0 : decide (0 ≤ a1) = true := decide_eq_true c5
        clear c5
        obtain rfl := Option.some.inj H
        have p295 : 0 ≤ (a1 : Int) := of_decide_eq_true (by first | (with_reducible assumption) | assumption)
        have q295 : a1 < (l0.length : Int) := of_decide_eq_true (by first | (with_reducible assumption) | assumption)
        obtain ⟨ad295, e295, hx295_0⟩ := Kd.at_int HR0.out a1 p295 q295
        cases e295
        replace p295 := eq_true p295
        replace q295 := eq_true q295
        go_enter Try.func38, Try.ntmps38
        go_wp2
        repeat (go_quiet (fail); try go_wp2)
        go_ret
        exact ⟨by first | rfl | (simp; done) | (simp [*]; done), by repeat (first | exact Drawn0.refl _ | apply Drawn0.step)⟩
      · rw [if_neg c5] at H
        exact absurd H (by simp)
    · rw [if_neg c4] at H
      have c4b0 : decide (a1 < (l0.length : Int)) = false := decide_eq_false c4
      clear c4
      obtain ⟨ji6, hji6⟩ : ∃ j_ : Int, (Int.tmod a1 (l0.length : Int)) = j_ := ⟨_, rfl⟩
      replace H : (if 0 ≤ (ji6) then (if (ji6) < (l0.length : Int) then (if 0 ≤ (Int.tmod (wrap64 ((wrap64 (a1 * 5)) + 1)) (l0.length : Int)) then (if (Int.tmod (wrap64 ((wrap64 (a1 * 5)) + 1)) (l0.length : Int)) < (l0.length : Int) then (some (((((((rd l0 (ji6)) * 31) % 256) + (rd l0 (Int.tmod (wrap64 ((wrap64 (a1 * 5)) + 1)) (l0.length : Int)))) % 256) + ((a1) % 256)) % 256)) else (none)) else (none)) else (none)) else (none)) = some r := by first | (rw [hji6] at H; exact H) | (simp only [hji6] at H ⊢; exact H)
      by_cases c7 : 0 ≤ (ji6)
      · rw [if_pos c7] at H
        have c7b0 : decide (0 ≤ (ji6)) = true := decide_eq_true c7
        clear c7
        by_cases c8 : (ji6) < (l0.length : Int)
        · rw [if_pos c8] at H
          have c8b0 : decide ((ji6) < (l0.length : Int)) = true := decide_eq_true c8
          clear c8
          obtain ⟨ji9, hji9⟩ : ∃ j_ : Int, (Int.tmod (wrap64 ((wrap64 (a1 * 5)) + 1)) (l0.length : Int)) = j_ := ⟨_, rfl⟩
          replace H : (if 0 ≤ (ji9) then (if (ji9) < (l0.length : Int) then (some (((((((rd l0 (ji6)) * 31) % 256) + (rd l0 (ji9))) % 256) + ((a1) % 256)) % 256)) else (none)) else (none)) = some r := by first | (rw [hji9] at H; exact H) | (simp only [hji9] at H ⊢; exact H)
          by_cases c10 : 0 ≤ (ji9)
          · rw [if_pos c10] at H
            have c10b0 : decide (0 ≤ (ji9)) = true := decide_eq_true c10
            clear c10
            by_cases c11 : (ji9) < (l0.length : Int)
            · rw [if_pos c11] at H
              have c11b0 : decide ((ji9) < (l0.length : Int)) = true := decide_eq_true c11
              clear c11
              obtain rfl := Option.some.inj H
              have p296 : 0 ≤ ((ji6) : Int) := of_decide_eq_true (by first | (with_reducible assumption) | assumption)
              have q296 : (ji6) < (l0.length : Int) := of_decide_eq_true (by first | (with_reducible assumption) | assumption)
              obtain ⟨ad296, e296, hx296_0⟩ := Kd.at_int HR0.out (ji6) p296 q296
              cases e296
              replace p296 := eq_true p296
              replace q296 := eq_true q296
              have p297 : 0 ≤ ((ji9) : Int) := of_decide_eq_true (by first | (with_reducible assumption) | assumption)
              have q297 : (ji9) < (l0.length : Int) := of_decide_eq_true (by first | (with_reducible assumption) | assumption)
              obtain ⟨ad297, e297, hx297_0⟩ := Kd.at_int HR0.out (ji9) p297 q297
              obtain rfl : ad296 = ad297 := (by injection e297)
              replace p297 := eq_true p297
              replace q297 := eq_true q297
              go_enter Try.func38, Try.ntmps38
              go_wp2
              repeat (go_quiet (fail); try go_wp2)
              go_ret
              exact ⟨by first | rfl | (simp; done) | (simp only [← hji6, ← hji9] <;> (first | rfl | simp)) | (simp [*]; done), by repeat (first | exact Drawn0.refl _ | apply Drawn0.step)⟩
            · rw [if_neg c11] at H
              exact absurd H (by simp)
          · rw [if_neg c10] at H
            exact absurd H (by simp)
        · rw [if_neg c8] at H
          exact absurd H (by simp)
      · rw [if_neg c7] at H
        exact absurd H (by simp)

/-! ### laws_wide: function 43 -/
set_option maxHeartbeats 8000000 in
set_option maxRecDepth 100000 in
theorem laws_wide.calls (A0 : Option Addr) (c0 : Nat) (l0 : List Int) (a1 : Int) (r : Int) (w : World) (hr0 : Kd.C (Kd.int .u8) w A0 l0.length l0) (hc0 : l0.length ≤ c0) (h : laws_wide.f l0 a1 = some r) :
    Calls Try.prog 43 #[.slice A0 l0.length c0, .int .i64 a1] w fun e w' => e = .returned (.int .i64 r) ∧ Drawn0 w w' := by
  have HR0 := Aside0.mk hr0
  have HC0 := Aside0.mk hc0
  clear hr0 hc0
  have H : ((laws_at.f l0 a1).bind fun t298 => ((laws_at.f l0 (wrap64 (a1 + 1))).bind fun t299 => ((laws_at.f l0 (wrap64 (a1 + 2))).bind fun t300 => ((laws_at.f l0 (wrap64 (a1 + 3))).bind fun t301 => (some (Go.bits .or .i64 (Go.bits .or .i64 (Go.bits .or .i64 (wrap64 ((wrap64 (t298)) * 16777216)) (wrap64 ((wrap64 (t299)) * 65536))) (wrap64 ((wrap64 (t300)) * 256))) (wrap64 (t301)))))))) = some r := h
  clear h
  replace H := Option.bind_eq_some_iff.mp H
  obtain ⟨t298, A30, H⟩ := H
  replace H : ((laws_at.f l0 (wrap64 (a1 + 1))).bind fun t299 => ((laws_at.f l0 (wrap64 (a1 + 2))).bind fun t300 => ((laws_at.f l0 (wrap64 (a1 + 3))).bind fun t301 => (some (Go.bits .or .i64 (Go.bits .or .i64 (Go.bits .or .i64 (wrap64 ((wrap64 (t298)) * 16777216)) (wrap64 ((wrap64 (t299)) * 65536))) (wrap64 ((wrap64 (t300)) * 256))) (wrap64 (t301))))))) = some r := H
  have A3 := Aside0.mk A30
  clear A30
  replace H := Option.bind_eq_some_iff.mp H
  obtain ⟨t299, A40, H⟩ := H
  replace H : ((laws_at.f l0 (wrap64 (a1 + 2))).bind fun t300 => ((laws_at.f l0 (wrap64 (a1 + 3))).bind fun t301 => (some (Go.bits .or .i64 (Go.bits .or .i64 (Go.bits .or .i64 (wrap64 ((wrap64 (t298)) * 16777216)) (wrap64 ((wrap64 (t299)) * 65536))) (wrap64 ((wrap64 (t300)) * 256))) (wrap64 (t301)))))) = some r := H
  have A4 := Aside0.mk A40
  clear A40
  replace H := Option.bind_eq_some_iff.mp H
  obtain ⟨t300, A50, H⟩ := H
  replace H : ((laws_at.f l0 (wrap64 (a1 + 3))).bind fun t301 => (some (Go.bits .or .i64 (Go.bits .or .i64 (Go.bits .or .i64 (wrap64 ((wrap64 (t298)) * 16777216)) (wrap64 ((wrap64 (t299)) * 65536))) (wrap64 ((wrap64 (t300)) * 256))) (wrap64 (t301))))) = some r := H
  have A5 := Aside0.mk A50
  clear A50
  replace H := Option.bind_eq_some_iff.mp H
  obtain ⟨t301, A60, H⟩ := H
  replace H : (some (Go.bits .or .i64 (Go.bits .or .i64 (Go.bits .or .i64 (wrap64 ((wrap64 (t298)) * 16777216)) (wrap64 ((wrap64 (t299)) * 65536))) (wrap64 ((wrap64 (t300)) * 256))) (wrap64 (t301)))) = some r := H
  have A6 := Aside0.mk A60
  clear A60
  obtain rfl := Option.some.inj H
  go_enter Try.func43, Try.ntmps43
  go_wp2_with (first | ((with_reducible refine gate_callee (f := 38) rfl ?_); refine sqL (some 7) Try.func38 #[.slice A0 l0.length c0, .int .i64 a1] ?_; (with_reducible refine (laws_at.calls _ _ l0 a1 t298 _ ?side1 ?side2 A3.out).mono ?_); (case side1 => repeat (first | exact HR0.out | (with_reducible refine Kd.C_alloc ?_ _) | (with_reducible refine Kd.C_drewN ?_ _) | (with_reducible refine Kd.C_drew ?_))); (case side2 => exact HC0.out); rintro e w' ⟨rfl, ⟨nd, rfl⟩⟩; refine ⟨_, rfl, ?_⟩) | ((with_reducible refine gate_callee (f := 38) rfl ?_); refine sqL (some 13) Try.func38 #[.slice A0 l0.length c0, .int .i64 (wrap64 (a1 + 1))] ?_; (with_reducible refine (laws_at.calls _ _ l0 (wrap64 (a1 + 1)) t299 _ ?side1 ?side2 A4.out).mono ?_); (case side1 => repeat (first | exact HR0.out | (with_reducible refine Kd.C_alloc ?_ _) | (with_reducible refine Kd.C_drewN ?_ _) | (with_reducible refine Kd.C_drew ?_))); (case side2 => exact HC0.out); rintro e w' ⟨rfl, ⟨nd, rfl⟩⟩; refine ⟨_, rfl, ?_⟩) | ((with_reducible refine gate_callee (f := 38) rfl ?_); refine sqL (some 20) Try.func38 #[.slice A0 l0.length c0, .int .i64 (wrap64 (a1 + 2))] ?_; (with_reducible refine (laws_at.calls _ _ l0 (wrap64 (a1 + 2)) t300 _ ?side1 ?side2 A5.out).mono ?_); (case side1 => repeat (first | exact HR0.out | (with_reducible refine Kd.C_alloc ?_ _) | (with_reducible refine Kd.C_drewN ?_ _) | (with_reducible refine Kd.C_drew ?_))); (case side2 => exact HC0.out); rintro e w' ⟨rfl, ⟨nd, rfl⟩⟩; refine ⟨_, rfl, ?_⟩) | ((with_reducible refine gate_callee (f := 38) rfl ?_); refine sqL (some 27) Try.func38 #[.slice A0 l0.length c0, .int .i64 (wrap64 (a1 + 3))] ?_; (with_reducible refine (laws_at.calls _ _ l0 (wrap64 (a1 + 3)) t301 _ ?side1 ?side2 A6.out).mono ?_); (case side1 => repeat (first | exact HR0.out | (with_reducible refine Kd.C_alloc ?_ _) | (with_reducible refine Kd.C_drewN ?_ _) | (with_reducible refine Kd.C_drew ?_))); (case side2 => exact HC0.out); rintro e w' ⟨rfl, ⟨nd, rfl⟩⟩; refine ⟨_, rfl, ?_⟩))
  go_ret
  exact ⟨by first | rfl | (simp; done) | (simp [*]; done), by repeat (first | exact Drawn0.refl _ | apply Drawn0.step)⟩

/-! ### laws_ofRest: function 62 -/
theorem laws_ofRest.mono_l : ∀ k, (∀ y0 y1 y2 y3 y4, LeO (laws_ofRest.j0 k y0 y1 y2 y3 y4) (laws_ofRest.j0 (k + 1) y0 y1 y2 y3 y4))
  | 0 => fun _ _ _ _ _ r h => by simp [laws_ofRest.j0] at h
  | k + 1 => by
    have ih0 := laws_ofRest.mono_l k
    · intro y0 y1 y2 y3 y4
      unfold laws_ofRest.j0
      repeat' first
      | (with_reducible exact ih0 _ _ _ _ _)
      | (with_reducible exact LeO.refl _)
      | (with_reducible exact LeO.none _)
      | (with_reducible refine LeO.ite ?_ ?_)
      | (with_reducible refine LeO.bind ?_ (fun _ => ?_))
      | exact ih0 _ _ _ _ _
      | exact LeO.none _
      | refine LeO.ite ?_ ?_
      | refine LeO.bind ?_ (fun _ => ?_)
theorem laws_ofRest.mono : ∀ a0 a1 a2 a3 k, LeO (laws_ofRest.f k a0 a1 a2 a3) (laws_ofRest.f (k + 1) a0 a1 a2 a3) := by
  intro a0 a1 a2 a3 k
  have ih0 := laws_ofRest.mono_l k
  unfold laws_ofRest.f
  repeat' first
      | (with_reducible exact ih0 _ _ _ _ _)
      | (with_reducible exact LeO.refl _)
      | (with_reducible exact LeO.none _)
      | (with_reducible refine LeO.ite ?_ ?_)
      | (with_reducible refine LeO.bind ?_ (fun _ => ?_))
      | exact ih0 _ _ _ _ _
      | exact LeO.none _
      | refine LeO.ite ?_ ?_
      | refine LeO.bind ?_ (fun _ => ?_)
set_option maxHeartbeats 8000000 in
set_option maxRecDepth 100000 in
theorem laws_ofRest.calls (k : Nat) (a0_0 : Int) (a0_1 : Int) (A1 : Option Addr) (c1 : Nat) (l1 : List Int) (a2 : Int) (r : Int) (w : World) (hr1 : Kd.C (Kd.int .u8) w A1 l1.length l1) (hc1 : l1.length ≤ c1) (h : laws_ofRest.f k a0_0 a0_1 l1 a2 = some r) :
    Calls Try.prog 62 #[.agg #[.int .i64 a0_0, .int .i64 a0_1], .slice A1 l1.length c1, .int .i64 a2] w fun e w' => e = .returned (.int .i64 r) ∧ Below w.heap.size w w' := by
  have hu62 := Try.underlying62
  have HR1 := Aside0.mk hr1
  have HC1 := Aside0.mk hc1
  clear hr1 hc1
  have HB := Aside0.mk (Below.refl w.heap.size w)
  have H : ((spec_RestOk.f a0_0 a0_1).bind fun t303 => (if t303 = true then (laws_ofRest.j0 k l1 a2 (a0_0 == 0) a0_0 a0_1) else (laws_ofRest.j0 k l1 a2 true a0_0 a0_1))) = some r := h
  clear h
  have HC4 := Aside0.mk H
  clear H
  go_enter Try.func62, Try.ntmps62
  go_upto_region 1 with (first | ((with_reducible refine gate_dst (N := 3) rfl ?_); refine sqx 3 #[.int .i64 a0_0, .int .i64 a0_1] 62 ?_; intro gb302 hg w5 hbox hb; have BK302 := Aside0.mk (hbox); have GW302 := sqg HB hg; have GE302 := sqg HB hg; replace HB := sqs HB hb; clear hb hbox hg))
  repeat (go_quiet (first | ((with_reducible refine gate_dst (N := 3) rfl ?_); refine sqx 3 #[.int .i64 a0_0, .int .i64 a0_1] 62 ?_; intro gb302 hg w5 hbox hb; have BK302 := Aside0.mk (hbox); have GW302 := sqg HB hg; have GE302 := sqg HB hg; replace HB := sqs HB hb; clear hb hbox hg)); go_upto_region 1 with (first | ((with_reducible refine gate_dst (N := 3) rfl ?_); refine sqx 3 #[.int .i64 a0_0, .int .i64 a0_1] 62 ?_; intro gb302 hg w5 hbox hb; have BK302 := Aside0.mk (hbox); have GW302 := sqg HB hg; have GE302 := sqg HB hg; replace HB := sqs HB hb; clear hb hbox hg)))
  (try simp only [Act.put, List.setIfInBounds_toArray, List.set_cons_zero, List.set_cons_succ])
  go_cut [15] (fun v15 wc => ∃ (kq : Nat) (x15_3 : Bool), v15 = .bool x15_3 ∧ Aside0 (laws_ofRest.j0 kq l1 a2 x15_3 a0_0 a0_1 = some r) ∧ Aside0 (kq ≤ k) ∧ Aside0 (wc.heap[gb302]? = some (.cells #[.int .i64 a0_0, .int .i64 a0_1] 62 (0, 0))) ∧ Aside0 (Below w.heap.size w wc))
  case first =>
    have H := HC4.out
    clear HC4
    replace H := Option.bind_eq_some_iff.mp H
    obtain ⟨t303, A60, H⟩ := H
    replace H : (if t303 = true then (laws_ofRest.j0 k l1 a2 (a0_0 == 0) a0_0 a0_1) else (laws_ofRest.j0 k l1 a2 true a0_0 a0_1)) = some r := H
    have A6 := Aside0.mk A60
    clear A60
    by_cases c7 : t303 = true
    · subst c7
      have H1 : (laws_ofRest.j0 k l1 a2 (a0_0 == 0) a0_0 a0_1) = some r := by rw [if_pos rfl] at H; exact H
      clear H
      have H := H1
      clear H1
      have H' := Aside0.mk H
      clear H
      obtain ⟨hcz8_0, hcz8_1, hfz8_0, hfz8_1⟩ := sqc2 BK302
      go_wp2_with (first | (go_at_call 59; (with_reducible refine (spec_RestOk.calls a0_0 a0_1 true _ A6.out).mono ?_); rintro e w9 ⟨rfl, hb⟩; replace BK302 := sqb BK302 hb; replace HB := sqs HB hb; (try clear hb); obtain ⟨hcz10_0, hcz10_1, hfz10_0, hfz10_1⟩ := sqc2 BK302))
      repeat (go_quiet (first | (go_at_call 59; (with_reducible refine (spec_RestOk.calls a0_0 a0_1 true _ A6.out).mono ?_); rintro e w9 ⟨rfl, hb⟩; replace BK302 := sqb BK302 hb; replace HB := sqs HB hb; (try clear hb); obtain ⟨hcz10_0, hcz10_1, hfz10_0, hfz10_1⟩ := sqc2 BK302)); try go_wp2_with (first | (go_at_call 59; (with_reducible refine (spec_RestOk.calls a0_0 a0_1 true _ A6.out).mono ?_); rintro e w9 ⟨rfl, hb⟩; replace BK302 := sqb BK302 hb; replace HB := sqs HB hb; (try clear hb); obtain ⟨hcz10_0, hcz10_1, hfz10_0, hfz10_1⟩ := sqc2 BK302)))
      go_meet
      case rel => exact ⟨_, ((a0_0 == 0)), (by first | rfl | (simp; done) | (simp [*]; done)), H', ⟨by first | omega | exact Nat.le_refl _⟩, sqk BK302, sqh HB⟩
    · replace c7 := Bool.eq_false_iff.mpr c7
      subst c7
      have H1 : (laws_ofRest.j0 k l1 a2 true a0_0 a0_1) = some r := by rw [if_neg (show ¬ (false = true) by decide)] at H; exact H
      clear H
      have H := H1
      clear H1
      have H' := Aside0.mk H
      clear H
      obtain ⟨hcz11_0, hcz11_1, hfz11_0, hfz11_1⟩ := sqc2 BK302
      go_wp2_with (first | (go_at_call 59; (with_reducible refine (spec_RestOk.calls a0_0 a0_1 false _ A6.out).mono ?_); rintro e w12 ⟨rfl, hb⟩; replace BK302 := sqb BK302 hb; replace HB := sqs HB hb; (try clear hb)))
      repeat (go_quiet (first | (go_at_call 59; (with_reducible refine (spec_RestOk.calls a0_0 a0_1 false _ A6.out).mono ?_); rintro e w12 ⟨rfl, hb⟩; replace BK302 := sqb BK302 hb; replace HB := sqs HB hb; (try clear hb))); try go_wp2_with (first | (go_at_call 59; (with_reducible refine (spec_RestOk.calls a0_0 a0_1 false _ A6.out).mono ?_); rintro e w12 ⟨rfl, hb⟩; replace BK302 := sqb BK302 hb; replace HB := sqs HB hb; (try clear hb))))
      go_meet
      case rel => exact ⟨_, (true), (by first | rfl | (simp; done) | (simp [*]; done)), H', ⟨by first | omega | exact Nat.le_refl _⟩, sqk BK302, sqh HB⟩
  case rest =>
    clear HC4
    try clear c1
    obtain ⟨kq, x15_3, rfl, HA, HJ3, BK302, HB⟩ := hcut
    cases kq with
    | zero => exact absurd HA.out (by simp [laws_ofRest.j0])
    | succ kj3 =>
      have H := HA.out
      clear HA
      simp only [laws_ofRest.j0] at H
      by_cases c13 : x15_3 = true
      · subst c13
        have H1 : (some a0_1) = some r := by rw [if_pos rfl] at H; exact H
        clear H
        have H := H1
        clear H1
        obtain rfl := Option.some.inj H
        obtain ⟨hcz14_0, hcz14_1, hfz14_0, hfz14_1⟩ := sqc2 BK302
        go_wp2
        repeat (go_quiet (fail); try go_wp2)
        go_ret
        exact sqe HB
      · replace c13 := Bool.eq_false_iff.mpr c13
        subst c13
        have H1 : ((laws_at.f l1 a2).bind fun t304 => ((laws_at.f l1 (wrap64 (a2 + 3))).bind fun t305 => (if (Int.tmod t305 3) = 0 then ((laws_wide.f l1 a2).bind fun t306 => (if a0_0 = 0 then (none) else ((spec_NumWrap.f (wrap64 (a0_1 + (wrap64 (a0_0 * (wrap64 ((wrap64 (Int.tdiv t306 a0_0)) - 16384))))))).bind fun t307 => (some t307)))) else ((spec_NumWrap.f (wrap64 (a0_1 + (wrap64 (a0_0 * (wrap64 ((wrap64 (t304)) - 128))))))).bind fun t308 => (some t308))))) = some r := by rw [if_neg (show ¬ (false = true) by decide)] at H; exact H
        clear H
        have H := H1
        clear H1
        replace H := Option.bind_eq_some_iff.mp H
        obtain ⟨t304, A150, H⟩ := H
        replace H : ((laws_at.f l1 (wrap64 (a2 + 3))).bind fun t305 => (if (Int.tmod t305 3) = 0 then ((laws_wide.f l1 a2).bind fun t306 => (if a0_0 = 0 then (none) else ((spec_NumWrap.f (wrap64 (a0_1 + (wrap64 (a0_0 * (wrap64 ((wrap64 (Int.tdiv t306 a0_0)) - 16384))))))).bind fun t307 => (some t307)))) else ((spec_NumWrap.f (wrap64 (a0_1 + (wrap64 (a0_0 * (wrap64 ((wrap64 (t304)) - 128))))))).bind fun t308 => (some t308)))) = some r := H
        have A15 := Aside0.mk A150
        clear A150
        replace H := Option.bind_eq_some_iff.mp H
        obtain ⟨t305, A160, H⟩ := H
        replace H : (if (Int.tmod t305 3) = 0 then ((laws_wide.f l1 a2).bind fun t306 => (if a0_0 = 0 then (none) else ((spec_NumWrap.f (wrap64 (a0_1 + (wrap64 (a0_0 * (wrap64 ((wrap64 (Int.tdiv t306 a0_0)) - 16384))))))).bind fun t307 => (some t307)))) else ((spec_NumWrap.f (wrap64 (a0_1 + (wrap64 (a0_0 * (wrap64 ((wrap64 (t304)) - 128))))))).bind fun t308 => (some t308))) = some r := H
        have A16 := Aside0.mk A160
        clear A160
        by_cases c17 : (Int.tmod t305 3) = 0
        · rw [if_pos c17] at H
          have c17b0 : ((Int.tmod t305 3) == 0) = true := beq_iff_eq.mpr c17
          have c17b1 : ((Int.tmod t305 3) != 0) = false := bne_eq_false_iff_eq.mpr c17
          clear c17
          replace H := Option.bind_eq_some_iff.mp H
          obtain ⟨t306, A180, H⟩ := H
          replace H : (if a0_0 = 0 then (none) else ((spec_NumWrap.f (wrap64 (a0_1 + (wrap64 (a0_0 * (wrap64 ((wrap64 (Int.tdiv t306 a0_0)) - 16384))))))).bind fun t307 => (some t307))) = some r := H
          have A18 := Aside0.mk A180
          clear A180
          by_cases c19 : a0_0 = 0
          · rw [if_pos c19] at H
            exact absurd H (by simp)
          · rw [if_neg c19] at H
            have c19b0 : (a0_0 == 0) = false := beq_eq_false_iff_ne.mpr c19
            have c19b1 : (a0_0 != 0) = true := bne_iff_ne.mpr c19
            replace H := Option.bind_eq_some_iff.mp H
            obtain ⟨t307, A200, H⟩ := H
            replace H : (some t307) = some r := H
            have A20 := Aside0.mk A200
            clear A200
            obtain rfl := Option.some.inj H
            obtain ⟨hcz21_0, hcz21_1, hfz21_0, hfz21_1⟩ := sqc2 BK302
            go_wp2_with (first | (go_at_call 38; (with_reducible refine (laws_at.calls _ _ l1 a2 t304 _ ?side1 ?side2 A15.out).mono ?_); (case side1 => repeat (first | exact (Kd.C_below HR1.out HB.out) | (with_reducible refine Kd.C_alloc ?_ _) | (with_reducible refine Kd.C_drewN ?_ _) | (with_reducible refine Kd.C_drew ?_))); (case side2 => exact HC1.out); rintro e w' ⟨rfl, ⟨nd, rfl⟩⟩; (try first | exact ⟨rfl, _, World.drewN_drewN _ _ _⟩ | exact ⟨rfl, _, Eq.trans (World.drewN_drewN _ _ _) (congrArg (World.drewN _) (Nat.add_assoc _ _ _))⟩)) | (go_at_call 38; (with_reducible refine (laws_at.calls _ _ l1 (wrap64 (a2 + 3)) t305 _ ?side1 ?side2 A16.out).mono ?_); (case side1 => repeat (first | exact (Kd.C_below HR1.out (by repeat (first | (with_reducible first | exact HB.out | apply below_alloc | apply pw_below_drewN | apply below_drew1 | refine below_set ?_ GE302.out) | exact HB.out))) | (with_reducible refine Kd.C_alloc ?_ _) | (with_reducible refine Kd.C_drewN ?_ _) | (with_reducible refine Kd.C_drew ?_))); (case side2 => exact HC1.out); rintro e w' ⟨rfl, ⟨nd, rfl⟩⟩; (try first | exact ⟨rfl, _, World.drewN_drewN _ _ _⟩ | exact ⟨rfl, _, Eq.trans (World.drewN_drewN _ _ _) (congrArg (World.drewN _) (Nat.add_assoc _ _ _))⟩)) | (go_at_call 43; (with_reducible refine (laws_wide.calls _ _ l1 a2 t306 _ ?side1 ?side2 A18.out).mono ?_); (case side1 => repeat (first | exact (Kd.C_below HR1.out (by repeat (first | (with_reducible first | exact HB.out | apply below_alloc | apply pw_below_drewN | apply below_drew1 | refine below_set ?_ GE302.out) | exact HB.out))) | (with_reducible refine Kd.C_alloc ?_ _) | (with_reducible refine Kd.C_drewN ?_ _) | (with_reducible refine Kd.C_drew ?_))); (case side2 => exact HC1.out); rintro e w' ⟨rfl, ⟨nd, rfl⟩⟩; (try first | exact ⟨rfl, _, World.drewN_drewN _ _ _⟩ | exact ⟨rfl, _, Eq.trans (World.drewN_drewN _ _ _) (congrArg (World.drewN _) (Nat.add_assoc _ _ _))⟩)) | (go_at_call 42; (with_reducible refine (spec_NumWrap.calls (wrap64 (a0_1 + (wrap64 (a0_0 * (wrap64 ((wrap64 (Int.tdiv t306 a0_0)) - 16384)))))) t307 _ A20.out).mono ?_); rintro e w' ⟨rfl, ⟨nd, rfl⟩⟩; (try first | exact ⟨rfl, _, World.drewN_drewN _ _ _⟩ | exact ⟨rfl, _, Eq.trans (World.drewN_drewN _ _ _) (congrArg (World.drewN _) (Nat.add_assoc _ _ _))⟩)))
            repeat (go_quiet (first | (go_at_call 38; (with_reducible refine (laws_at.calls _ _ l1 a2 t304 _ ?side1 ?side2 A15.out).mono ?_); (case side1 => repeat (first | exact (Kd.C_below HR1.out HB.out) | (with_reducible refine Kd.C_alloc ?_ _) | (with_reducible refine Kd.C_drewN ?_ _) | (with_reducible refine Kd.C_drew ?_))); (case side2 => exact HC1.out); rintro e w' ⟨rfl, ⟨nd, rfl⟩⟩; (try first | exact ⟨rfl, _, World.drewN_drewN _ _ _⟩ | exact ⟨rfl, _, Eq.trans (World.drewN_drewN _ _ _) (congrArg (World.drewN _) (Nat.add_assoc _ _ _))⟩)) | (go_at_call 38; (with_reducible refine (laws_at.calls _ _ l1 (wrap64 (a2 + 3)) t305 _ ?side1 ?side2 A16.out).mono ?_); (case side1 => repeat (first | exact (Kd.C_below HR1.out (by repeat (first | (with_reducible first | exact HB.out | apply below_alloc | apply pw_below_drewN | apply below_drew1 | refine below_set ?_ GE302.out) | exact HB.out))) | (with_reducible refine Kd.C_alloc ?_ _) | (with_reducible refine Kd.C_drewN ?_ _) | (with_reducible refine Kd.C_drew ?_))); (case side2 => exact HC1.out); rintro e w' ⟨rfl, ⟨nd, rfl⟩⟩; (try first | exact ⟨rfl, _, World.drewN_drewN _ _ _⟩ | exact ⟨rfl, _, Eq.trans (World.drewN_drewN _ _ _) (congrArg (World.drewN _) (Nat.add_assoc _ _ _))⟩)) | (go_at_call 43; (with_reducible refine (laws_wide.calls _ _ l1 a2 t306 _ ?side1 ?side2 A18.out).mono ?_); (case side1 => repeat (first | exact (Kd.C_below HR1.out (by repeat (first | (with_reducible first | exact HB.out | apply below_alloc | apply pw_below_drewN | apply below_drew1 | refine below_set ?_ GE302.out) | exact HB.out))) | (with_reducible refine Kd.C_alloc ?_ _) | (with_reducible refine Kd.C_drewN ?_ _) | (with_reducible refine Kd.C_drew ?_))); (case side2 => exact HC1.out); rintro e w' ⟨rfl, ⟨nd, rfl⟩⟩; (try first | exact ⟨rfl, _, World.drewN_drewN _ _ _⟩ | exact ⟨rfl, _, Eq.trans (World.drewN_drewN _ _ _) (congrArg (World.drewN _) (Nat.add_assoc _ _ _))⟩)) | (go_at_call 42; (with_reducible refine (spec_NumWrap.calls (wrap64 (a0_1 + (wrap64 (a0_0 * (wrap64 ((wrap64 (Int.tdiv t306 a0_0)) - 16384)))))) t307 _ A20.out).mono ?_); rintro e w' ⟨rfl, ⟨nd, rfl⟩⟩; (try first | exact ⟨rfl, _, World.drewN_drewN _ _ _⟩ | exact ⟨rfl, _, Eq.trans (World.drewN_drewN _ _ _) (congrArg (World.drewN _) (Nat.add_assoc _ _ _))⟩))); try go_wp2_with (first | (go_at_call 38; (with_reducible refine (laws_at.calls _ _ l1 a2 t304 _ ?side1 ?side2 A15.out).mono ?_); (case side1 => repeat (first | exact (Kd.C_below HR1.out HB.out) | (with_reducible refine Kd.C_alloc ?_ _) | (with_reducible refine Kd.C_drewN ?_ _) | (with_reducible refine Kd.C_drew ?_))); (case side2 => exact HC1.out); rintro e w' ⟨rfl, ⟨nd, rfl⟩⟩; (try first | exact ⟨rfl, _, World.drewN_drewN _ _ _⟩ | exact ⟨rfl, _, Eq.trans (World.drewN_drewN _ _ _) (congrArg (World.drewN _) (Nat.add_assoc _ _ _))⟩)) | (go_at_call 38; (with_reducible refine (laws_at.calls _ _ l1 (wrap64 (a2 + 3)) t305 _ ?side1 ?side2 A16.out).mono ?_); (case side1 => repeat (first | exact (Kd.C_below HR1.out (by repeat (first | (with_reducible first | exact HB.out | apply below_alloc | apply pw_below_drewN | apply below_drew1 | refine below_set ?_ GE302.out) | exact HB.out))) | (with_reducible refine Kd.C_alloc ?_ _) | (with_reducible refine Kd.C_drewN ?_ _) | (with_reducible refine Kd.C_drew ?_))); (case side2 => exact HC1.out); rintro e w' ⟨rfl, ⟨nd, rfl⟩⟩; (try first | exact ⟨rfl, _, World.drewN_drewN _ _ _⟩ | exact ⟨rfl, _, Eq.trans (World.drewN_drewN _ _ _) (congrArg (World.drewN _) (Nat.add_assoc _ _ _))⟩)) | (go_at_call 43; (with_reducible refine (laws_wide.calls _ _ l1 a2 t306 _ ?side1 ?side2 A18.out).mono ?_); (case side1 => repeat (first | exact (Kd.C_below HR1.out (by repeat (first | (with_reducible first | exact HB.out | apply below_alloc | apply pw_below_drewN | apply below_drew1 | refine below_set ?_ GE302.out) | exact HB.out))) | (with_reducible refine Kd.C_alloc ?_ _) | (with_reducible refine Kd.C_drewN ?_ _) | (with_reducible refine Kd.C_drew ?_))); (case side2 => exact HC1.out); rintro e w' ⟨rfl, ⟨nd, rfl⟩⟩; (try first | exact ⟨rfl, _, World.drewN_drewN _ _ _⟩ | exact ⟨rfl, _, Eq.trans (World.drewN_drewN _ _ _) (congrArg (World.drewN _) (Nat.add_assoc _ _ _))⟩)) | (go_at_call 42; (with_reducible refine (spec_NumWrap.calls (wrap64 (a0_1 + (wrap64 (a0_0 * (wrap64 ((wrap64 (Int.tdiv t306 a0_0)) - 16384)))))) t307 _ A20.out).mono ?_); rintro e w' ⟨rfl, ⟨nd, rfl⟩⟩; (try first | exact ⟨rfl, _, World.drewN_drewN _ _ _⟩ | exact ⟨rfl, _, Eq.trans (World.drewN_drewN _ _ _) (congrArg (World.drewN _) (Nat.add_assoc _ _ _))⟩))))
            go_ret
            exact sqe HB
        · rw [if_neg c17] at H
          have c17b0 : ((Int.tmod t305 3) == 0) = false := beq_eq_false_iff_ne.mpr c17
          have c17b1 : ((Int.tmod t305 3) != 0) = true := bne_iff_ne.mpr c17
          replace H := Option.bind_eq_some_iff.mp H
          obtain ⟨t308, A220, H⟩ := H
          replace H : (some t308) = some r := H
          have A22 := Aside0.mk A220
          clear A220
          obtain rfl := Option.some.inj H
          obtain ⟨hcz23_0, hcz23_1, hfz23_0, hfz23_1⟩ := sqc2 BK302
          go_wp2_with (first | (go_at_call 38; (with_reducible refine (laws_at.calls _ _ l1 a2 t304 _ ?side1 ?side2 A15.out).mono ?_); (case side1 => repeat (first | exact (Kd.C_below HR1.out HB.out) | (with_reducible refine Kd.C_alloc ?_ _) | (with_reducible refine Kd.C_drewN ?_ _) | (with_reducible refine Kd.C_drew ?_))); (case side2 => exact HC1.out); rintro e w' ⟨rfl, ⟨nd, rfl⟩⟩; (try first | exact ⟨rfl, _, World.drewN_drewN _ _ _⟩ | exact ⟨rfl, _, Eq.trans (World.drewN_drewN _ _ _) (congrArg (World.drewN _) (Nat.add_assoc _ _ _))⟩)) | (go_at_call 38; (with_reducible refine (laws_at.calls _ _ l1 (wrap64 (a2 + 3)) t305 _ ?side1 ?side2 A16.out).mono ?_); (case side1 => repeat (first | exact (Kd.C_below HR1.out (by repeat (first | (with_reducible first | exact HB.out | apply below_alloc | apply pw_below_drewN | apply below_drew1 | refine below_set ?_ GE302.out) | exact HB.out))) | (with_reducible refine Kd.C_alloc ?_ _) | (with_reducible refine Kd.C_drewN ?_ _) | (with_reducible refine Kd.C_drew ?_))); (case side2 => exact HC1.out); rintro e w' ⟨rfl, ⟨nd, rfl⟩⟩; (try first | exact ⟨rfl, _, World.drewN_drewN _ _ _⟩ | exact ⟨rfl, _, Eq.trans (World.drewN_drewN _ _ _) (congrArg (World.drewN _) (Nat.add_assoc _ _ _))⟩)) | (go_at_call 42; (with_reducible refine (spec_NumWrap.calls (wrap64 (a0_1 + (wrap64 (a0_0 * (wrap64 ((wrap64 (t304)) - 128)))))) t308 _ A22.out).mono ?_); rintro e w' ⟨rfl, ⟨nd, rfl⟩⟩; (try first | exact ⟨rfl, _, World.drewN_drewN _ _ _⟩ | exact ⟨rfl, _, Eq.trans (World.drewN_drewN _ _ _) (congrArg (World.drewN _) (Nat.add_assoc _ _ _))⟩)))
          repeat (go_quiet (first | (go_at_call 38; (with_reducible refine (laws_at.calls _ _ l1 a2 t304 _ ?side1 ?side2 A15.out).mono ?_); (case side1 => repeat (first | exact (Kd.C_below HR1.out HB.out) | (with_reducible refine Kd.C_alloc ?_ _) | (with_reducible refine Kd.C_drewN ?_ _) | (with_reducible refine Kd.C_drew ?_))); (case side2 => exact HC1.out); rintro e w' ⟨rfl, ⟨nd, rfl⟩⟩; (try first | exact ⟨rfl, _, World.drewN_drewN _ _ _⟩ | exact ⟨rfl, _, Eq.trans (World.drewN_drewN _ _ _) (congrArg (World.drewN _) (Nat.add_assoc _ _ _))⟩)) | (go_at_call 38; (with_reducible refine (laws_at.calls _ _ l1 (wrap64 (a2 + 3)) t305 _ ?side1 ?side2 A16.out).mono ?_); (case side1 => repeat (first | exact (Kd.C_below HR1.out (by repeat (first | (with_reducible first | exact HB.out | apply below_alloc | apply pw_below_drewN | apply below_drew1 | refine below_set ?_ GE302.out) | exact HB.out))) | (with_reducible refine Kd.C_alloc ?_ _) | (with_reducible refine Kd.C_drewN ?_ _) | (with_reducible refine Kd.C_drew ?_))); (case side2 => exact HC1.out); rintro e w' ⟨rfl, ⟨nd, rfl⟩⟩; (try first | exact ⟨rfl, _, World.drewN_drewN _ _ _⟩ | exact ⟨rfl, _, Eq.trans (World.drewN_drewN _ _ _) (congrArg (World.drewN _) (Nat.add_assoc _ _ _))⟩)) | (go_at_call 42; (with_reducible refine (spec_NumWrap.calls (wrap64 (a0_1 + (wrap64 (a0_0 * (wrap64 ((wrap64 (t304)) - 128)))))) t308 _ A22.out).mono ?_); rintro e w' ⟨rfl, ⟨nd, rfl⟩⟩; (try first | exact ⟨rfl, _, World.drewN_drewN _ _ _⟩ | exact ⟨rfl, _, Eq.trans (World.drewN_drewN _ _ _) (congrArg (World.drewN _) (Nat.add_assoc _ _ _))⟩))); try go_wp2_with (first | (go_at_call 38; (with_reducible refine (laws_at.calls _ _ l1 a2 t304 _ ?side1 ?side2 A15.out).mono ?_); (case side1 => repeat (first | exact (Kd.C_below HR1.out HB.out) | (with_reducible refine Kd.C_alloc ?_ _) | (with_reducible refine Kd.C_drewN ?_ _) | (with_reducible refine Kd.C_drew ?_))); (case side2 => exact HC1.out); rintro e w' ⟨rfl, ⟨nd, rfl⟩⟩; (try first | exact ⟨rfl, _, World.drewN_drewN _ _ _⟩ | exact ⟨rfl, _, Eq.trans (World.drewN_drewN _ _ _) (congrArg (World.drewN _) (Nat.add_assoc _ _ _))⟩)) | (go_at_call 38; (with_reducible refine (laws_at.calls _ _ l1 (wrap64 (a2 + 3)) t305 _ ?side1 ?side2 A16.out).mono ?_); (case side1 => repeat (first | exact (Kd.C_below HR1.out (by repeat (first | (with_reducible first | exact HB.out | apply below_alloc | apply pw_below_drewN | apply below_drew1 | refine below_set ?_ GE302.out) | exact HB.out))) | (with_reducible refine Kd.C_alloc ?_ _) | (with_reducible refine Kd.C_drewN ?_ _) | (with_reducible refine Kd.C_drew ?_))); (case side2 => exact HC1.out); rintro e w' ⟨rfl, ⟨nd, rfl⟩⟩; (try first | exact ⟨rfl, _, World.drewN_drewN _ _ _⟩ | exact ⟨rfl, _, Eq.trans (World.drewN_drewN _ _ _) (congrArg (World.drewN _) (Nat.add_assoc _ _ _))⟩)) | (go_at_call 42; (with_reducible refine (spec_NumWrap.calls (wrap64 (a0_1 + (wrap64 (a0_0 * (wrap64 ((wrap64 (t304)) - 128)))))) t308 _ A22.out).mono ?_); rintro e w' ⟨rfl, ⟨nd, rfl⟩⟩; (try first | exact ⟨rfl, _, World.drewN_drewN _ _ _⟩ | exact ⟨rfl, _, Eq.trans (World.drewN_drewN _ _ _) (congrArg (World.drewN _) (Nat.add_assoc _ _ _))⟩))))
          go_ret
          exact sqe HB

end Go.Proofs.Ytmdcgkkkfncieaa.PFnRestLattice
