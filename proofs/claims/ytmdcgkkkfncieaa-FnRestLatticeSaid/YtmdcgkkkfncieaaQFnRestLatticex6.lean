/- Functions of the program as plain Lean functions, and that calls of them come to what these tell. Conditions: those in each law. -/
import Derived.Test.YtmdcgkkkfncieaaSq
import Derived.Test.YtmdcgkkkfncieaaDFnRestLattice
import Derived.Test.YtmdcgkkkfncieaaQFnRestLatticex0
import Derived.Test.YtmdcgkkkfncieaaQFnRestLatticex5
namespace Go.Proofs.Ytmdcgkkkfncieaa.PFnRestLattice
open Go.RowKit Go.Proofs.Ytmdcgkkkfncieaa.Sq Go.Proofs.YtmdcgkkkfncieaaW.PrintWords Go.Proofs.YtmdcgkkkfncieaaW.PrintLast Go.Proofs.YtmdcgkkkfncieaaW.PrintMore
attribute [local go_sem] max2_int min2_int max_two min_two max_three min_three max_four min_four   -- for this text's walks alone
set_option linter.unusedVariables false
set_option linter.unusedSimpArgs false

/-! ### impl_RestJoin: function 55 -/
theorem impl_RestJoin.mono_l : ∀ k, (∀ y0 y1 y2 y3 y4, LeO (impl_RestJoin.j0 k y0 y1 y2 y3 y4) (impl_RestJoin.j0 (k + 1) y0 y1 y2 y3 y4))
  | 0 => fun _ _ _ _ _ r h => by simp [impl_RestJoin.j0] at h
  | k + 1 => by
    have ih0 := impl_RestJoin.mono_l k
    · intro y0 y1 y2 y3 y4
      unfold impl_RestJoin.j0
      repeat' first
      | (with_reducible exact ih0 _ _ _ _ _)
      | (with_reducible exact impl_restGcd.mono _ _)
      | (with_reducible exact impl_restOf.mono _ _ _)
      | (with_reducible exact LeO.refl _)
      | (with_reducible exact LeO.none _)
      | (with_reducible refine LeO.ite ?_ ?_)
      | (with_reducible refine LeO.bind ?_ (fun _ => ?_))
      | exact ih0 _ _ _ _ _
      | exact impl_restGcd.mono _ _
      | exact impl_restOf.mono _ _ _
      | exact LeO.none _
      | refine LeO.ite ?_ ?_
      | refine LeO.bind ?_ (fun _ => ?_)
theorem impl_RestJoin.mono : ∀ a0 a1 a2 a3 k, LeO (impl_RestJoin.f k a0 a1 a2 a3) (impl_RestJoin.f (k + 1) a0 a1 a2 a3) := by
  intro a0 a1 a2 a3 k
  have ih0 := impl_RestJoin.mono_l k
  unfold impl_RestJoin.f
  repeat' first
      | (with_reducible exact ih0 _ _ _ _ _)
      | (with_reducible exact impl_restGcd.mono _ _)
      | (with_reducible exact impl_restOf.mono _ _ _)
      | (with_reducible exact LeO.refl _)
      | (with_reducible exact LeO.none _)
      | (with_reducible refine LeO.ite ?_ ?_)
      | (with_reducible refine LeO.bind ?_ (fun _ => ?_))
      | exact ih0 _ _ _ _ _
      | exact impl_restGcd.mono _ _
      | exact impl_restOf.mono _ _ _
      | exact LeO.none _
      | refine LeO.ite ?_ ?_
      | refine LeO.bind ?_ (fun _ => ?_)
def impl_RestJoin.T3 : Bool × List (List Nat × List Nat) := (true, [([], []), ([0], [0]), ([], []), ([2], [2]), ([], []), ([4], [4]), ([], []), ([6], [6]), ([], []), ([8], [8]), ([7, 9], [7, 9]), ([3, 5, 10], [3, 5, 10]), ([11], [11]), ([1, 12, 12], [1, 12]), ([13, 13, 0, 1, 2, 3, 4, 5, 6, 7, 8, 9, 10, 11, 12, 13], [13])])
def impl_RestJoin.B3 : List Nat := [0, 1, 0, 4, 0, 16, 0, 64, 0, 256, 960, 2044, 4092, 8191, 16383]
theorem impl_RestJoin.tab3 : rtab .any (opsOf Try.f55 3) = impl_RestJoin.T3 := by kernel_rfl
theorem impl_RestJoin.bits3 : waitsOk impl_RestJoin.T3.2 impl_RestJoin.B3 = true := by kernel_rfl
set_option maxHeartbeats 8000000 in
set_option maxRecDepth 100000 in
theorem impl_RestJoin.calls (k : Nat) (a0_0 : Int) (a0_1 : Int) (a1_0 : Int) (a1_1 : Int) (r1 : Int) (r2 : Int) (w : World) (h : impl_RestJoin.f k a0_0 a0_1 a1_0 a1_1 = some (r1, r2)) :
    Calls Try.prog 55 #[.agg #[.int .i64 a0_0, .int .i64 a0_1], .agg #[.int .i64 a1_0, .int .i64 a1_1]] w fun e w' => e = .returned (.agg #[.int .i64 r1, .int .i64 r2]) ∧ Below w.heap.size w w' := by
  have hu62 := Try.underlying62
  have HB := Aside0.mk (Below.refl w.heap.size w)
  have H : ((impl_RestOk.f a0_0 a0_1).bind fun t233 => (if t233 = true then ((impl_RestOk.f a1_0 a1_1).bind fun t234 => (impl_RestJoin.j0 k (!t234) a0_0 a0_1 a1_0 a1_1)) else (impl_RestJoin.j0 k true a0_0 a0_1 a1_0 a1_1))) = some (r1, r2) := h
  clear h
  have HC3 := Aside0.mk H
  clear H
  go_enter Try.func55, Try.ntmps55
  go_upto_region 1 with (first | ((with_reducible refine gate_dst (N := 2) rfl ?_); refine sqx 2 #[.int .i64 a0_0, .int .i64 a0_1] 62 ?_; intro gb230 hg w4 hbox hb; have BK230 := Aside0.mk (hbox); have GW230 := sqg HB hg; have GE230 := sqg HB hg; replace HB := sqs HB hb; clear hb hbox hg) | ((with_reducible refine gate_dst (N := 3) rfl ?_); refine sqx 3 #[.int .i64 a1_0, .int .i64 a1_1] 62 ?_; intro gb231 hg w5 hbox hb; have BK231 := Aside0.mk (hbox); have GW231 := sqg HB hg; have GE231 := sqg HB hg; have NB230_231 := sqn BK230 hg; have NB231_230 := sqm BK230 hg; replace BK230 := sqb BK230 hb; replace HB := sqs HB hb; clear hb hbox hg) | ((with_reducible refine gate_dst (N := 4) rfl ?_); refine sqx 4 #[.int .i64 0, .int .i64 0] 62 ?_; intro gb232 hg w6 hbox hb; have BK232 := Aside0.mk (hbox); have GW232 := sqg HB hg; have GE232 := sqg HB hg; have NB230_232 := sqn BK230 hg; have NB232_230 := sqm BK230 hg; have NB231_232 := sqn BK231 hg; have NB232_231 := sqm BK231 hg; replace BK230 := sqb BK230 hb; replace BK231 := sqb BK231 hb; replace HB := sqs HB hb; clear hb hbox hg))
  (try simp only [Act.put, List.setIfInBounds_toArray, List.set_cons_zero, List.set_cons_succ])
  go_cut [12] (fun v12 wc => ∃ (kq : Nat) (x12_2 : Bool), v12 = .bool x12_2 ∧ Aside0 (impl_RestJoin.j0 kq x12_2 a0_0 a0_1 a1_0 a1_1 = some (r1, r2)) ∧ Aside0 (kq ≤ k) ∧ Aside0 (wc.heap[gb230]? = some (.cells #[.int .i64 a0_0, .int .i64 a0_1] 62 (0, 0))) ∧ Aside0 (wc.heap[gb231]? = some (.cells #[.int .i64 a1_0, .int .i64 a1_1] 62 (0, 0))) ∧ Aside0 (wc.heap[gb232]? = some (.cells #[.int .i64 0, .int .i64 0] 62 (0, 0))) ∧ Aside0 (Below w.heap.size w wc))
  case first =>
    have H := HC3.out
    clear HC3
    replace H := Option.bind_eq_some_iff.mp H
    obtain ⟨t233, A70, H⟩ := H
    replace H : (if t233 = true then ((impl_RestOk.f a1_0 a1_1).bind fun t234 => (impl_RestJoin.j0 k (!t234) a0_0 a0_1 a1_0 a1_1)) else (impl_RestJoin.j0 k true a0_0 a0_1 a1_0 a1_1)) = some (r1, r2) := H
    have A7 := Aside0.mk A70
    clear A70
    by_cases c8 : t233 = true
    · subst c8
      have H1 : ((impl_RestOk.f a1_0 a1_1).bind fun t234 => (impl_RestJoin.j0 k (!t234) a0_0 a0_1 a1_0 a1_1)) = some (r1, r2) := by rw [if_pos rfl] at H; exact H
      clear H
      have H := H1
      clear H1
      replace H := Option.bind_eq_some_iff.mp H
      obtain ⟨t234, A90, H⟩ := H
      replace H : (impl_RestJoin.j0 k (!t234) a0_0 a0_1 a1_0 a1_1) = some (r1, r2) := H
      have A9 := Aside0.mk A90
      clear A90
      have H' := Aside0.mk H
      clear H
      have hnb10 := NB230_231.out
      have hnc10 := NB231_230.out
      have hnb11 := NB230_232.out
      have hnc11 := NB232_230.out
      obtain ⟨hcz12_0, hcz12_1, hfz12_0, hfz12_1⟩ := sqc2 BK230
      go_wp2_with (first | ((with_reducible refine gate_callee (f := 61) rfl ?_); refine sqL (some 6) Try.func61 #[.agg #[.int .i64 a0_0, .int .i64 a0_1]] ?_; (with_reducible refine (impl_RestOk.calls a0_0 a0_1 true _ A7.out).mono ?_); rintro e w13 ⟨rfl, hb⟩; refine ⟨_, rfl, ?_⟩; replace BK230 := sqb BK230 hb; replace BK231 := sqb BK231 hb; replace BK232 := sqb BK232 hb; replace HB := sqs HB hb; (try clear hb); have hnb14 := NB231_232.out; have hnc14 := NB232_231.out; obtain ⟨hcz15_0, hcz15_1, hfz15_0, hfz15_1⟩ := sqc2 BK231) | (go_at_call 61; (with_reducible refine (impl_RestOk.calls a1_0 a1_1 t234 _ A9.out).mono ?_); rintro e w16 ⟨rfl, hb⟩; replace BK230 := sqb BK230 hb; replace BK231 := sqb BK231 hb; replace BK232 := sqb BK232 hb; replace HB := sqs HB hb; (try clear hb)))
      go_meet
      case rel => exact ⟨_, (!t234), (by first | rfl | (simp; done) | (simp [*]; done)), H', ⟨by first | omega | exact Nat.le_refl _⟩, sqk BK230, sqk BK231, sqk BK232, sqh HB⟩
    · replace c8 := Bool.eq_false_iff.mpr c8
      subst c8
      have H1 : (impl_RestJoin.j0 k true a0_0 a0_1 a1_0 a1_1) = some (r1, r2) := by rw [if_neg (show ¬ (false = true) by decide)] at H; exact H
      clear H
      have H := H1
      clear H1
      have H' := Aside0.mk H
      clear H
      have hnb17 := NB230_231.out
      have hnc17 := NB231_230.out
      have hnb18 := NB230_232.out
      have hnc18 := NB232_230.out
      obtain ⟨hcz19_0, hcz19_1, hfz19_0, hfz19_1⟩ := sqc2 BK230
      go_wp2_with (first | ((with_reducible refine gate_callee (f := 61) rfl ?_); refine sqL (some 6) Try.func61 #[.agg #[.int .i64 a0_0, .int .i64 a0_1]] ?_; (with_reducible refine (impl_RestOk.calls a0_0 a0_1 false _ A7.out).mono ?_); rintro e w20 ⟨rfl, hb⟩; refine ⟨_, rfl, ?_⟩; replace BK230 := sqb BK230 hb; replace BK231 := sqb BK231 hb; replace BK232 := sqb BK232 hb; replace HB := sqs HB hb; (try clear hb)))
      go_meet
      case rel => exact ⟨_, (true), (by first | rfl | (simp; done) | (simp [*]; done)), H', ⟨by first | omega | exact Nat.le_refl _⟩, sqk BK230, sqk BK231, sqk BK232, sqh HB⟩
  case rest =>
    clear HC3
    obtain ⟨kq, x12_2, rfl, HA, HJ2, BK230, BK231, BK232, HB⟩ := hcut
    cases kq with
    | zero => exact absurd HA.out (by simp [impl_RestJoin.j0])
    | succ kj2 =>
      have H := HA.out
      clear HA
      simp only [impl_RestJoin.j0] at H
      by_cases c21 : x12_2 = true
      · subst c21
        have H1 : ((impl_restAll.f).bind fun bt235 => (some (bt235.1, bt235.2))) = some (r1, r2) := by rw [if_pos rfl] at H; exact H
        clear H
        have H := H1
        clear H1
        replace H := Option.bind_eq_some_iff.mp H
        obtain ⟨⟨t235, t236⟩, A220, H⟩ := H
        replace H : (some (t235, t236)) = some (r1, r2) := H
        have A22 := Aside0.mk A220
        clear A220
        simp only [Option.some.injEq, Prod.mk.injEq] at H
        obtain ⟨rfl, rfl⟩ := H
        go_wp2_with (first | ((with_reducible refine gate_callee (f := 105) rfl ?_); refine sqL (some 13) Try.func105 #[] ?_; (with_reducible refine (impl_restAll.calls  t235 t236 _ A22.out).mono ?_); rintro e w23 ⟨rfl, hb⟩; refine ⟨_, rfl, ?_⟩; replace BK230 := sqb BK230 hb; replace BK231 := sqb BK231 hb; replace BK232 := sqb BK232 hb; replace HB := sqs HB hb; (try clear hb); have hnb24 := NB232_230.out; have hnc24 := NB230_232.out; have hnb25 := NB232_231.out; have hnc25 := NB231_232.out; obtain ⟨hcz26_0, hcz26_1, hfz26_0, hfz26_1⟩ := sqc2 BK232))
        refine bodyPost_ret (results_cell_row rfl _ _ gb232 62 #[.int .i64 t235, .int .i64 t236] (0, 0) _ rfl (by refine sqt ?_; refine blk_put (cs := #[.int .i64 t235, .int .i64 0]) ?_ 1 _ rfl; refine sqt ?_; refine blk_put (cs := #[.int .i64 0, .int .i64 0]) ?_ 0 _ rfl; refine sqt ?_; exact BK232.out) Try.underlying62 rfl (by kernel_rfl)) rfl ?_
        exact sqe HB
      · replace c21 := Bool.eq_false_iff.mpr c21
        subst c21
        have H1 : ((impl_restGcd.f kj2 (([a0_0, a1_0, wrap64 (a0_1 - a1_1)] : List Int))).bind fun t240 => ((impl_restOf.f kj2 a0_1 t240).bind fun bt241 => (some (bt241.1, bt241.2)))) = some (r1, r2) := by rw [if_neg (show ¬ (false = true) by decide)] at H; exact H
        clear H
        have H := H1
        clear H1
        obtain ⟨y237, hy237⟩ : ∃ y_ : List Int, y_ = (([a0_0, a1_0, wrap64 (a0_1 - a1_1)] : List Int)) := ⟨_, rfl⟩
        replace H : ((impl_restGcd.f kj2 y237).bind fun t240 => ((impl_restOf.f kj2 a0_1 t240).bind fun bt241 => (some (bt241.1, bt241.2)))) = some (r1, r2) := by first | (rw [hy237]; with_reducible exact H) | (have H2_ := (Option.bind_some _ _).symm.trans H; rw [hy237]; with_reducible exact H2_) | (have H2_ := (Option.bind_some _ _).symm.trans H; with_reducible exact H2_) | with_reducible exact H | (rw [hy237]; exact H) | exact H
        have Ny237 := Aside0.mk hy237
        clear hy237
        replace H := Option.bind_eq_some_iff.mp H
        obtain ⟨t240, A270, H⟩ := H
        replace H : ((impl_restOf.f kj2 a0_1 t240).bind fun bt241 => (some (bt241.1, bt241.2))) = some (r1, r2) := H
        have A27 := Aside0.mk A270
        clear A270
        replace H := Option.bind_eq_some_iff.mp H
        obtain ⟨⟨t241, t242⟩, A280, H⟩ := H
        replace H : (some (t241, t242)) = some (r1, r2) := H
        have A28 := Aside0.mk A280
        clear A280
        simp only [Option.some.injEq, Prod.mk.injEq] at H
        obtain ⟨rfl, rfl⟩ := H
        try go_wp2
        replace BK230 := Aside0.mk (blk_drew BK230.out)
        replace BK231 := Aside0.mk (blk_drew BK231.out)
        replace BK232 := Aside0.mk (blk_drew BK232.out)
        replace HB := Aside0.mk (below_drew1 HB.out)
        refine start_ (n := 15) (S := fun w' => w'.cell? ⟨gb230, 0, none⟩ = some (.int .i64 a0_0) ∧ w'.cell? ⟨gb230, 1, none⟩ = some (.int .i64 a0_1) ∧ w'.cell? ⟨gb231, 0, none⟩ = some (.int .i64 a1_0) ∧ w'.cell? ⟨gb231, 1, none⟩ = some (.int .i64 a1_1)) (ds := []) #[false, false, false, false, false, false, false, false, false, false, false, false, false, false, false] (by kernel_rfl) rfl rfl ⟨(blk_cell BK230.out 0).trans rfl, (blk_cell BK230.out 1).trans rfl, (blk_cell BK231.out 0).trans rfl, (blk_cell BK231.out 1).trans rfl⟩ (fun hHeld => ?_); refine with_tabW impl_RestJoin.tab3 impl_RestJoin.bits3 (fun HT_ HW_ => ?_)
        generalize wc.drew = w29 at BK230 BK231 BK232 HB hHeld ⊢
        refine sqp HT_ 0 14 ?_
        refine sqp HT_ 2 16 ?_
        refine sqp HT_ 4 18 ?_
        refine sqp HT_ 6 20 ?_
        refine sqp HT_ 8 22 ?_
        refine sqw HT_ HW_ 1 15 hHeld ?_
        refine sqw HT_ HW_ 3 17 hHeld ?_
        refine sqw HT_ HW_ 5 19 hHeld ?_
        refine sqw HT_ HW_ 7 21 hHeld ?_
        refine sqw HT_ HW_ 9 23 hHeld ?_
        refine sqp HT_ 10 24 ?_
        refine sqo HT_ 11 25 (fun K hK => ?_)
        refine Kd.R_lit_step (Kd.int .i64) _ 3 ?hg (N := 25) ?hd (xs := ([a0_0, a1_0, wrap64 (a0_1 - a1_1)] : List Int)) (inner := [.int .i64 a0_0, .int .i64 a1_0, .int .i64 (wrap64 (a0_1 - a1_1))]) (ok := fun _ => True) (okp := fun _ => True) ?hr ?hp (fun _ hk => hk) trivial (Below.refl _ _) (Nat.le_refl _) (by simp) ?_; (case hd => rfl); (case hg => rfl); (case hr => first | (go_simp; done) | (go_simp; rfl)); (case hp => exact (Reps.one (show Kd.M (Kd.int .i64) _ _ _ a0_0 [.int .i64 a0_0] from rfl) (Reps.one (show Kd.M (Kd.int .i64) _ _ _ a1_0 [.int .i64 a1_0] from rfl) (Reps.one (show Kd.M (Kd.int .i64) _ _ _ (wrap64 (a0_1 - a1_1)) [.int .i64 (wrap64 (a0_1 - a1_1))] from rfl) (Reps.none _ _)))))
        intro v238 w30 ho31 hb hg_ hnew_
        clear hg_ hnew_
        (first | rw [← Ny237.out] at ho31 | (simp only [Int.reduceToNat] at ho31; rw [← Ny237.out] at ho31))
        have HO239 := Aside0.mk (Kd.R_lower ho31 (below_size (by repeat (first | (with_reducible first | exact HB.out | apply below_alloc | apply pw_below_drewN | apply below_drew1 | refine below_set ?_ GE230.out | refine below_set ?_ GE231.out | refine below_set ?_ GE232.out) | exact HB.out))))
        replace BK230 := sqb BK230 hb
        replace BK231 := sqb BK231 hb
        replace BK232 := sqb BK232 hb
        replace HB := sqs HB hb
        clear hb ho31
        obtain ⟨Ao32, co32, eo32⟩ := Kd.R_slice HO239.out
        (first | subst eo32 | (injection eo32 with f1_ f2_ f3_; have f4_ := f1_.symm; have f5_ := f3_.symm; clear f1_ f2_ f3_; subst f4_; subst f5_))
        refine hK.out _ _ sqz (fun hHeld => ?_)
        clear hK K
        refine sqnm ?_
        refine sqo HT_ 12 26 (fun K hK => ?_)
        refine sqG Try.func107 #[.slice Ao32 y237.length co32] ?_
        with_reducible refine (impl_restGcd.calls kj2 _ _ y237 t240 _ ?side1 ?side2 A27.out).mono ?_
        (case side1 => repeat (first | exact (Kd.R_reads' HO239.out).2.2 | (with_reducible refine Kd.C_alloc ?_ _) | (with_reducible refine Kd.C_drewN ?_ _) | (with_reducible refine Kd.C_drew ?_)))
        (case side2 => exact (Kd.R_reads' HO239.out).2.1)
        rintro e w' ⟨rfl, ⟨nd, rfl⟩⟩
        refine ⟨_, rfl, ?_⟩
        refine hK.out _ _ sqz (fun hHeld => ?_)
        clear hK K
        refine sqnm ?_
        refine sqo HT_ 13 27 (fun K hK => ?_)
        refine sqG Try.func106 #[.int .i64 a0_1, .int .i64 t240] ?_
        with_reducible refine (impl_restOf.calls kj2 a0_1 t240 t241 t242 _ A28.out).mono ?_
        rintro e w33 ⟨rfl, hb⟩
        refine ⟨_, rfl, ?_⟩
        have n0_ := Aside0.mk (Kd.R_below (by (with_reducible repeat (first | apply Kd.R_alloc | apply Kd.R_drewN | apply Kd.R_drew)); exact HO239.out) hb)
        have n1_ := sqb BK230 hb
        have n2_ := sqb BK231 hb
        have n3_ := sqb BK232 hb
        have n4_ := sqs HB hb
        clear HO239
        clear BK230
        clear BK231
        clear BK232
        clear HB
        have HO239 := n0_
        have BK230 := n1_
        have BK231 := n2_
        have BK232 := n3_
        have HB := n4_
        clear n0_ n1_ n2_ n3_ n4_
        (try clear hb)
        refine hK.out _ _ sqz (fun hHeld => ?_)
        clear hK K
        refine sqnm ?_
        refine one_ (i := 14) (N := none) #[true, true, true, true, true, true, true, true, true, true, true, true, true, true, true] rfl rfl (one_of HT_.out (by kernel_rfl)) (by decide) (fun K hK => ?_)
        have hs34 : w33.cell? ⟨gb232, 0, none⟩ = some (.int .i64 0) := (blk_cell BK232.out 0).trans rfl
        have hfs34 := blk_frozen BK232.out 0
        have hns34_0 := NB230_232.out
        have hns34_1 := NB231_232.out
        have hms34_0 := NB232_230.out
        have hms34_1 := NB232_231.out
        have hs35 : w33.cell? ⟨gb232, 1, none⟩ = some (.int .i64 0) := (blk_cell BK232.out 1).trans rfl
        have hfs35 := blk_frozen BK232.out 1
        have hns35_0 := NB230_232.out
        have hns35_1 := NB231_232.out
        have hms35_0 := NB232_230.out
        have hms35_1 := NB232_231.out
        refine skip_ (w1 := ?_) (by rfl) rfl ?_ ?_
        rotate_left
        · go_simp
          rfl
        refine hK.out _ _ ⟨((cell_far (p := ⟨gb232, _, none⟩) NB230_232.out _).trans (((cell_far (p := ⟨gb232, _, none⟩) NB230_232.out _).trans (hHeld.1)))), ((cell_far (p := ⟨gb232, _, none⟩) NB230_232.out _).trans (((cell_far (p := ⟨gb232, _, none⟩) NB230_232.out _).trans (hHeld.2.1)))), ((cell_far (p := ⟨gb232, _, none⟩) NB231_232.out _).trans (((cell_far (p := ⟨gb232, _, none⟩) NB231_232.out _).trans (hHeld.2.2.1)))), ((cell_far (p := ⟨gb232, _, none⟩) NB231_232.out _).trans (((cell_far (p := ⟨gb232, _, none⟩) NB231_232.out _).trans (hHeld.2.2.2))))⟩ (fun hHeld => ?_)
        clear hK K
        refine done_ (done_of HT_.out (by kernel_rfl)) ?_
        try go_wp2
        refine bodyPost_ret (results_cell_row rfl _ _ gb232 62 #[.int .i64 t241, .int .i64 t242] (0, 0) _ rfl (by refine sqt ?_; refine blk_put (cs := #[.int .i64 t241, .int .i64 0]) ?_ 1 _ rfl; refine sqt ?_; refine blk_put (cs := #[.int .i64 0, .int .i64 0]) ?_ 0 _ rfl; refine sqt ?_; exact BK232.out) Try.underlying62 rfl (by kernel_rfl)) rfl ?_
        exact sqe HB

/-! ### impl_RestHas: function 64 -/
theorem impl_RestHas.mono_l : ∀ k, (∀ y0 y1 y2 y3, LeO (impl_RestHas.j0 k y0 y1 y2 y3) (impl_RestHas.j0 (k + 1) y0 y1 y2 y3))
  | 0 => fun _ _ _ _ r h => by simp [impl_RestHas.j0] at h
  | k + 1 => by
    have ih0 := impl_RestHas.mono_l k
    · intro y0 y1 y2 y3
      unfold impl_RestHas.j0
      repeat' first
      | (with_reducible exact ih0 _ _ _ _)
      | (with_reducible exact LeO.refl _)
      | (with_reducible exact LeO.none _)
      | (with_reducible refine LeO.ite ?_ ?_)
      | (with_reducible refine LeO.bind ?_ (fun _ => ?_))
      | exact ih0 _ _ _ _
      | exact LeO.none _
      | refine LeO.ite ?_ ?_
      | refine LeO.bind ?_ (fun _ => ?_)
theorem impl_RestHas.mono : ∀ a0 a1 a2 k, LeO (impl_RestHas.f k a0 a1 a2) (impl_RestHas.f (k + 1) a0 a1 a2) := by
  intro a0 a1 a2 k
  have ih0 := impl_RestHas.mono_l k
  unfold impl_RestHas.f
  repeat' first
      | (with_reducible exact ih0 _ _ _ _)
      | (with_reducible exact LeO.refl _)
      | (with_reducible exact LeO.none _)
      | (with_reducible refine LeO.ite ?_ ?_)
      | (with_reducible refine LeO.bind ?_ (fun _ => ?_))
      | exact ih0 _ _ _ _
      | exact LeO.none _
      | refine LeO.ite ?_ ?_
      | refine LeO.bind ?_ (fun _ => ?_)
set_option maxHeartbeats 8000000 in
set_option maxRecDepth 100000 in
theorem impl_RestHas.calls (k : Nat) (a0_0 : Int) (a0_1 : Int) (a1 : Int) (r : Bool) (w : World) (h : impl_RestHas.f k a0_0 a0_1 a1 = some r) :
    Calls Try.prog 64 #[.agg #[.int .i64 a0_0, .int .i64 a0_1], .int .i64 a1] w fun e w' => e = .returned (.bool r) ∧ Below w.heap.size w w' := by
  have hu62 := Try.underlying62
  have HB := Aside0.mk (Below.refl w.heap.size w)
  have H : ((impl_RestOk.f a0_0 a0_1).bind fun t244 => (if t244 = true then ((impl_NumOk.f a1).bind fun t245 => (impl_RestHas.j0 k a1 (!t245) a0_0 a0_1)) else (impl_RestHas.j0 k a1 true a0_0 a0_1))) = some r := h
  clear h
  have HC3 := Aside0.mk H
  clear H
  go_enter Try.func64, Try.ntmps64
  go_upto_region 1 with (first | ((with_reducible refine gate_dst (N := 2) rfl ?_); refine sqx 2 #[.int .i64 a0_0, .int .i64 a0_1] 62 ?_; intro gb243 hg w4 hbox hb; have BK243 := Aside0.mk (hbox); have GW243 := sqg HB hg; have GE243 := sqg HB hg; replace HB := sqs HB hb; clear hb hbox hg))
  repeat (go_quiet (first | ((with_reducible refine gate_dst (N := 2) rfl ?_); refine sqx 2 #[.int .i64 a0_0, .int .i64 a0_1] 62 ?_; intro gb243 hg w4 hbox hb; have BK243 := Aside0.mk (hbox); have GW243 := sqg HB hg; have GE243 := sqg HB hg; replace HB := sqs HB hb; clear hb hbox hg)); go_upto_region 1 with (first | ((with_reducible refine gate_dst (N := 2) rfl ?_); refine sqx 2 #[.int .i64 a0_0, .int .i64 a0_1] 62 ?_; intro gb243 hg w4 hbox hb; have BK243 := Aside0.mk (hbox); have GW243 := sqg HB hg; have GE243 := sqg HB hg; replace HB := sqs HB hb; clear hb hbox hg)))
  (try simp only [Act.put, List.setIfInBounds_toArray, List.set_cons_zero, List.set_cons_succ])
  go_cut [12] (fun v12 wc => ∃ (kq : Nat) (x12_2 : Bool), v12 = .bool x12_2 ∧ Aside0 (impl_RestHas.j0 kq a1 x12_2 a0_0 a0_1 = some r) ∧ Aside0 (kq ≤ k) ∧ Aside0 (wc.heap[gb243]? = some (.cells #[.int .i64 a0_0, .int .i64 a0_1] 62 (0, 0))) ∧ Aside0 (Below w.heap.size w wc))
  case first =>
    have H := HC3.out
    clear HC3
    replace H := Option.bind_eq_some_iff.mp H
    obtain ⟨t244, A50, H⟩ := H
    replace H : (if t244 = true then ((impl_NumOk.f a1).bind fun t245 => (impl_RestHas.j0 k a1 (!t245) a0_0 a0_1)) else (impl_RestHas.j0 k a1 true a0_0 a0_1)) = some r := H
    have A5 := Aside0.mk A50
    clear A50
    by_cases c6 : t244 = true
    · subst c6
      have H1 : ((impl_NumOk.f a1).bind fun t245 => (impl_RestHas.j0 k a1 (!t245) a0_0 a0_1)) = some r := by rw [if_pos rfl] at H; exact H
      clear H
      have H := H1
      clear H1
      replace H := Option.bind_eq_some_iff.mp H
      obtain ⟨t245, A70, H⟩ := H
      replace H : (impl_RestHas.j0 k a1 (!t245) a0_0 a0_1) = some r := H
      have A7 := Aside0.mk A70
      clear A70
      have H' := Aside0.mk H
      clear H
      obtain ⟨hcz8_0, hcz8_1, hfz8_0, hfz8_1⟩ := sqc2 BK243
      go_wp2_with (first | (go_at_call 61; (with_reducible refine (impl_RestOk.calls a0_0 a0_1 true _ A5.out).mono ?_); rintro e w9 ⟨rfl, hb⟩; replace BK243 := sqb BK243 hb; replace HB := sqs HB hb; (try clear hb)) | (go_at_call 92; (with_reducible refine (impl_NumOk.calls a1 t245 _ A7.out).mono ?_); rintro e w' ⟨rfl, ⟨nd, rfl⟩⟩; (try first | exact ⟨rfl, _, World.drewN_drewN _ _ _⟩ | exact ⟨rfl, _, Eq.trans (World.drewN_drewN _ _ _) (congrArg (World.drewN _) (Nat.add_assoc _ _ _))⟩)))
      repeat (go_quiet (first | (go_at_call 61; (with_reducible refine (impl_RestOk.calls a0_0 a0_1 true _ A5.out).mono ?_); rintro e w9 ⟨rfl, hb⟩; replace BK243 := sqb BK243 hb; replace HB := sqs HB hb; (try clear hb)) | (go_at_call 92; (with_reducible refine (impl_NumOk.calls a1 t245 _ A7.out).mono ?_); rintro e w' ⟨rfl, ⟨nd, rfl⟩⟩; (try first | exact ⟨rfl, _, World.drewN_drewN _ _ _⟩ | exact ⟨rfl, _, Eq.trans (World.drewN_drewN _ _ _) (congrArg (World.drewN _) (Nat.add_assoc _ _ _))⟩))); try go_wp2_with (first | (go_at_call 61; (with_reducible refine (impl_RestOk.calls a0_0 a0_1 true _ A5.out).mono ?_); rintro e w9 ⟨rfl, hb⟩; replace BK243 := sqb BK243 hb; replace HB := sqs HB hb; (try clear hb)) | (go_at_call 92; (with_reducible refine (impl_NumOk.calls a1 t245 _ A7.out).mono ?_); rintro e w' ⟨rfl, ⟨nd, rfl⟩⟩; (try first | exact ⟨rfl, _, World.drewN_drewN _ _ _⟩ | exact ⟨rfl, _, Eq.trans (World.drewN_drewN _ _ _) (congrArg (World.drewN _) (Nat.add_assoc _ _ _))⟩))))
      go_meet
      case rel => exact ⟨_, (!t245), (by first | rfl | (simp; done) | (simp [*]; done)), H', ⟨by first | omega | exact Nat.le_refl _⟩, sqk BK243, sqh HB⟩
    · replace c6 := Bool.eq_false_iff.mpr c6
      subst c6
      have H1 : (impl_RestHas.j0 k a1 true a0_0 a0_1) = some r := by rw [if_neg (show ¬ (false = true) by decide)] at H; exact H
      clear H
      have H := H1
      clear H1
      have H' := Aside0.mk H
      clear H
      obtain ⟨hcz10_0, hcz10_1, hfz10_0, hfz10_1⟩ := sqc2 BK243
      go_wp2_with (first | (go_at_call 61; (with_reducible refine (impl_RestOk.calls a0_0 a0_1 false _ A5.out).mono ?_); rintro e w11 ⟨rfl, hb⟩; replace BK243 := sqb BK243 hb; replace HB := sqs HB hb; (try clear hb)))
      repeat (go_quiet (first | (go_at_call 61; (with_reducible refine (impl_RestOk.calls a0_0 a0_1 false _ A5.out).mono ?_); rintro e w11 ⟨rfl, hb⟩; replace BK243 := sqb BK243 hb; replace HB := sqs HB hb; (try clear hb))); try go_wp2_with (first | (go_at_call 61; (with_reducible refine (impl_RestOk.calls a0_0 a0_1 false _ A5.out).mono ?_); rintro e w11 ⟨rfl, hb⟩; replace BK243 := sqb BK243 hb; replace HB := sqs HB hb; (try clear hb))))
      go_meet
      case rel => exact ⟨_, (true), (by first | rfl | (simp; done) | (simp [*]; done)), H', ⟨by first | omega | exact Nat.le_refl _⟩, sqk BK243, sqh HB⟩
  case rest =>
    clear HC3
    obtain ⟨kq, x12_2, rfl, HA, HJ2, BK243, HB⟩ := hcut
    cases kq with
    | zero => exact absurd HA.out (by simp [impl_RestHas.j0])
    | succ kj2 =>
      have H := HA.out
      clear HA
      simp only [impl_RestHas.j0] at H
      by_cases c12 : x12_2 = true
      · subst c12
        have H1 : (some false) = some r := by rw [if_pos rfl] at H; exact H
        clear H
        have H := H1
        clear H1
        obtain rfl := Option.some.inj H
        go_wp2
        repeat (go_quiet (fail); try go_wp2)
        go_ret
        exact sqe HB
      · replace c12 := Bool.eq_false_iff.mpr c12
        subst c12
        have H1 : (if a0_0 = 0 then (some (a1 == a0_1)) else ((impl_restMod.f a1 a0_0).bind fun t246 => (some (t246 == a0_1)))) = some r := by rw [if_neg (show ¬ (false = true) by decide)] at H; exact H
        clear H
        have H := H1
        clear H1
        by_cases c13 : a0_0 = 0
        · rw [if_pos c13] at H
          have c13b0 : (a0_0 == 0) = true := beq_iff_eq.mpr c13
          have c13b1 : (a0_0 != 0) = false := bne_eq_false_iff_eq.mpr c13
          clear c13
          obtain rfl := Option.some.inj H
          obtain ⟨hcz14_0, hcz14_1, hfz14_0, hfz14_1⟩ := sqc2 BK243
          go_wp2
          repeat (go_quiet (fail); try go_wp2)
          go_ret
          exact sqe HB
        · rw [if_neg c13] at H
          have c13b0 : (a0_0 == 0) = false := beq_eq_false_iff_ne.mpr c13
          have c13b1 : (a0_0 != 0) = true := bne_iff_ne.mpr c13
          replace H := Option.bind_eq_some_iff.mp H
          obtain ⟨t246, A150, H⟩ := H
          replace H : (some (t246 == a0_1)) = some r := H
          have A15 := Aside0.mk A150
          clear A150
          obtain rfl := Option.some.inj H
          obtain ⟨hcz16_0, hcz16_1, hfz16_0, hfz16_1⟩ := sqc2 BK243
          go_wp2_with (first | (go_at_call 108; (with_reducible refine (impl_restMod.calls a1 a0_0 t246 _ A15.out).mono ?_); rintro e w' ⟨rfl, ⟨nd, rfl⟩⟩; (try first | exact ⟨rfl, _, World.drewN_drewN _ _ _⟩ | exact ⟨rfl, _, Eq.trans (World.drewN_drewN _ _ _) (congrArg (World.drewN _) (Nat.add_assoc _ _ _))⟩)))
          repeat (go_quiet (first | (go_at_call 108; (with_reducible refine (impl_restMod.calls a1 a0_0 t246 _ A15.out).mono ?_); rintro e w' ⟨rfl, ⟨nd, rfl⟩⟩; (try first | exact ⟨rfl, _, World.drewN_drewN _ _ _⟩ | exact ⟨rfl, _, Eq.trans (World.drewN_drewN _ _ _) (congrArg (World.drewN _) (Nat.add_assoc _ _ _))⟩))); try go_wp2_with (first | (go_at_call 108; (with_reducible refine (impl_restMod.calls a1 a0_0 t246 _ A15.out).mono ?_); rintro e w' ⟨rfl, ⟨nd, rfl⟩⟩; (try first | exact ⟨rfl, _, World.drewN_drewN _ _ _⟩ | exact ⟨rfl, _, Eq.trans (World.drewN_drewN _ _ _) (congrArg (World.drewN _) (Nat.add_assoc _ _ _))⟩))))
          go_ret
          exact sqe HB

end Go.Proofs.Ytmdcgkkkfncieaa.PFnRestLattice
