/- Functions of the program as plain Lean functions, and that calls of them come to what these tell. Conditions: those in each law. -/
import Derived.Test.YtmdcgkkkfncieaaSq
import Derived.Test.YtmdcgkkkfncieaaDFnRestLattice
import Derived.Test.YtmdcgkkkfncieaaQFnRestLatticex0
import Derived.Test.YtmdcgkkkfncieaaQFnRestLatticex5
import Derived.Test.YtmdcgkkkfncieaaQFnRestLatticex6
namespace Go.Proofs.Ytmdcgkkkfncieaa.PFnRestLattice
open Go.RowKit Go.Proofs.Ytmdcgkkkfncieaa.Sq Go.Proofs.YtmdcgkkkfncieaaW.PrintWords Go.Proofs.YtmdcgkkkfncieaaW.PrintLast Go.Proofs.YtmdcgkkkfncieaaW.PrintMore
attribute [local go_sem] max2_int min2_int max_two min_two max_three min_three max_four min_four   -- for this text's walks alone
set_option linter.unusedVariables false
set_option linter.unusedSimpArgs false

/-! ### impl_RestMeet: function 56 -/
theorem impl_RestMeet.mono_l : ∀ k, (∀ y0 y1 y2 y3 y4, LeO (impl_RestMeet.j0 k y0 y1 y2 y3 y4) (impl_RestMeet.j0 (k + 1) y0 y1 y2 y3 y4)) ∧ (∀ y0 y1 y2 y3 y4, LeO (impl_RestMeet.j1 k y0 y1 y2 y3 y4) (impl_RestMeet.j1 (k + 1) y0 y1 y2 y3 y4)) ∧ (∀ y0 y1 y2 y3 y4 y5, LeO (impl_RestMeet.l0 k y0 y1 y2 y3 y4 y5) (impl_RestMeet.l0 (k + 1) y0 y1 y2 y3 y4 y5))
  | 0 => ⟨fun _ _ _ _ _ r h => by simp [impl_RestMeet.j0] at h, fun _ _ _ _ _ r h => by simp [impl_RestMeet.j1] at h, fun _ _ _ _ _ _ r h => by simp [impl_RestMeet.l0] at h⟩
  | k + 1 => by
    obtain ⟨ih0, ih1, ih2⟩ := impl_RestMeet.mono_l k
    refine ⟨?_, ?_, ?_⟩
    · intro y0 y1 y2 y3 y4
      unfold impl_RestMeet.j0
      repeat' first
      | (with_reducible exact ih0 _ _ _ _ _)
      | (with_reducible exact ih1 _ _ _ _ _)
      | (with_reducible exact ih2 _ _ _ _ _ _)
      | (with_reducible exact impl_RestHas.mono _ _ _ _)
      | (with_reducible exact impl_restGcd.mono _ _)
      | (with_reducible exact LeO.refl _)
      | (with_reducible exact LeO.none _)
      | (with_reducible refine LeO.ite ?_ ?_)
      | (with_reducible refine LeO.bind ?_ (fun _ => ?_))
      | exact ih0 _ _ _ _ _
      | exact ih1 _ _ _ _ _
      | exact ih2 _ _ _ _ _ _
      | exact impl_RestHas.mono _ _ _ _
      | exact impl_restGcd.mono _ _
      | exact LeO.none _
      | refine LeO.ite ?_ ?_
      | refine LeO.bind ?_ (fun _ => ?_)
    · intro y0 y1 y2 y3 y4
      unfold impl_RestMeet.j1
      repeat' first
      | (with_reducible exact ih0 _ _ _ _ _)
      | (with_reducible exact ih1 _ _ _ _ _)
      | (with_reducible exact ih2 _ _ _ _ _ _)
      | (with_reducible exact impl_RestHas.mono _ _ _ _)
      | (with_reducible exact impl_restGcd.mono _ _)
      | (with_reducible exact LeO.refl _)
      | (with_reducible exact LeO.none _)
      | (with_reducible refine LeO.ite ?_ ?_)
      | (with_reducible refine LeO.bind ?_ (fun _ => ?_))
      | exact ih0 _ _ _ _ _
      | exact ih1 _ _ _ _ _
      | exact ih2 _ _ _ _ _ _
      | exact impl_RestHas.mono _ _ _ _
      | exact impl_restGcd.mono _ _
      | exact LeO.none _
      | refine LeO.ite ?_ ?_
      | refine LeO.bind ?_ (fun _ => ?_)
    · intro y0 y1 y2 y3 y4 y5
      unfold impl_RestMeet.l0
      repeat' first
      | (with_reducible exact ih0 _ _ _ _ _)
      | (with_reducible exact ih1 _ _ _ _ _)
      | (with_reducible exact ih2 _ _ _ _ _ _)
      | (with_reducible exact impl_RestHas.mono _ _ _ _)
      | (with_reducible exact impl_restGcd.mono _ _)
      | (with_reducible exact LeO.refl _)
      | (with_reducible exact LeO.none _)
      | (with_reducible refine LeO.ite ?_ ?_)
      | (with_reducible refine LeO.bind ?_ (fun _ => ?_))
      | exact ih0 _ _ _ _ _
      | exact ih1 _ _ _ _ _
      | exact ih2 _ _ _ _ _ _
      | exact impl_RestHas.mono _ _ _ _
      | exact impl_restGcd.mono _ _
      | exact LeO.none _
      | refine LeO.ite ?_ ?_
      | refine LeO.bind ?_ (fun _ => ?_)
theorem impl_RestMeet.mono : ∀ a0 a1 a2 a3 k, LeO (impl_RestMeet.f k a0 a1 a2 a3) (impl_RestMeet.f (k + 1) a0 a1 a2 a3) := by
  intro a0 a1 a2 a3 k
  obtain ⟨ih0, ih1, ih2⟩ := impl_RestMeet.mono_l k
  unfold impl_RestMeet.f
  repeat' first
      | (with_reducible exact ih0 _ _ _ _ _)
      | (with_reducible exact ih1 _ _ _ _ _)
      | (with_reducible exact ih2 _ _ _ _ _ _)
      | (with_reducible exact impl_RestHas.mono _ _ _ _)
      | (with_reducible exact impl_restGcd.mono _ _)
      | (with_reducible exact LeO.refl _)
      | (with_reducible exact LeO.none _)
      | (with_reducible refine LeO.ite ?_ ?_)
      | (with_reducible refine LeO.bind ?_ (fun _ => ?_))
      | exact ih0 _ _ _ _ _
      | exact ih1 _ _ _ _ _
      | exact ih2 _ _ _ _ _ _
      | exact impl_RestHas.mono _ _ _ _
      | exact impl_restGcd.mono _ _
      | exact LeO.none _
      | refine LeO.ite ?_ ?_
      | refine LeO.bind ?_ (fun _ => ?_)
set_option maxHeartbeats 8000000 in
set_option maxRecDepth 100000 in
theorem impl_RestMeet.calls (k : Nat) (a0_0 : Int) (a0_1 : Int) (a1_0 : Int) (a1_1 : Int) (r1 : Int) (r2 : Int) (r3 : Bool) (w : World) (h : impl_RestMeet.f k a0_0 a0_1 a1_0 a1_1 = some (r1, r2, r3)) :
    Calls Try.prog 56 #[.agg #[.int .i64 a0_0, .int .i64 a0_1], .agg #[.int .i64 a1_0, .int .i64 a1_1]] w fun e w' => e = .returned (.tuple #[.agg #[.int .i64 r1, .int .i64 r2], .bool r3]) ∧ Below w.heap.size w w' := by
  have hu62 := Try.underlying62
  have HB := Aside0.mk (Below.refl w.heap.size w)
  have H : ((impl_RestOk.f a0_0 a0_1).bind fun t250 => (if t250 = true then ((impl_RestOk.f a1_0 a1_1).bind fun t251 => (impl_RestMeet.j0 k (!t251) a0_0 a0_1 a1_0 a1_1)) else (impl_RestMeet.j0 k true a0_0 a0_1 a1_0 a1_1))) = some (r1, r2, r3) := h
  clear h
  have HC3 := Aside0.mk H
  clear H
  go_enter Try.func56, Try.ntmps56
  go_upto_region 1 with (first | ((with_reducible refine gate_dst (N := 2) rfl ?_); refine sqx 2 #[.int .i64 a0_0, .int .i64 a0_1] 62 ?_; intro gb247 hg w4 hbox hb; have BK247 := Aside0.mk (hbox); have GW247 := sqg HB hg; have GE247 := sqg HB hg; replace HB := sqs HB hb; clear hb hbox hg) | ((with_reducible refine gate_dst (N := 3) rfl ?_); refine sqx 3 #[.int .i64 a1_0, .int .i64 a1_1] 62 ?_; intro gb248 hg w5 hbox hb; have BK248 := Aside0.mk (hbox); have GW248 := sqg HB hg; have GE248 := sqg HB hg; have NB247_248 := sqn BK247 hg; have NB248_247 := sqm BK247 hg; replace BK247 := sqb BK247 hb; replace HB := sqs HB hb; clear hb hbox hg) | ((with_reducible refine gate_dst (N := 4) rfl ?_); refine sqx 4 #[.int .i64 0, .int .i64 0] 62 ?_; intro gb249 hg w6 hbox hb; have BK249 := Aside0.mk (hbox); have GW249 := sqg HB hg; have GE249 := sqg HB hg; have NB247_249 := sqn BK247 hg; have NB249_247 := sqm BK247 hg; have NB248_249 := sqn BK248 hg; have NB249_248 := sqm BK248 hg; replace BK247 := sqb BK247 hb; replace BK248 := sqb BK248 hb; replace HB := sqs HB hb; clear hb hbox hg))
  repeat (go_quiet (first | ((with_reducible refine gate_dst (N := 2) rfl ?_); refine sqx 2 #[.int .i64 a0_0, .int .i64 a0_1] 62 ?_; intro gb247 hg w4 hbox hb; have BK247 := Aside0.mk (hbox); have GW247 := sqg HB hg; have GE247 := sqg HB hg; replace HB := sqs HB hb; clear hb hbox hg) | ((with_reducible refine gate_dst (N := 3) rfl ?_); refine sqx 3 #[.int .i64 a1_0, .int .i64 a1_1] 62 ?_; intro gb248 hg w5 hbox hb; have BK248 := Aside0.mk (hbox); have GW248 := sqg HB hg; have GE248 := sqg HB hg; have NB247_248 := sqn BK247 hg; have NB248_247 := sqm BK247 hg; replace BK247 := sqb BK247 hb; replace HB := sqs HB hb; clear hb hbox hg) | ((with_reducible refine gate_dst (N := 4) rfl ?_); refine sqx 4 #[.int .i64 0, .int .i64 0] 62 ?_; intro gb249 hg w6 hbox hb; have BK249 := Aside0.mk (hbox); have GW249 := sqg HB hg; have GE249 := sqg HB hg; have NB247_249 := sqn BK247 hg; have NB249_247 := sqm BK247 hg; have NB248_249 := sqn BK248 hg; have NB249_248 := sqm BK248 hg; replace BK247 := sqb BK247 hb; replace BK248 := sqb BK248 hb; replace HB := sqs HB hb; clear hb hbox hg)); go_upto_region 1 with (first | ((with_reducible refine gate_dst (N := 2) rfl ?_); refine sqx 2 #[.int .i64 a0_0, .int .i64 a0_1] 62 ?_; intro gb247 hg w4 hbox hb; have BK247 := Aside0.mk (hbox); have GW247 := sqg HB hg; have GE247 := sqg HB hg; replace HB := sqs HB hb; clear hb hbox hg) | ((with_reducible refine gate_dst (N := 3) rfl ?_); refine sqx 3 #[.int .i64 a1_0, .int .i64 a1_1] 62 ?_; intro gb248 hg w5 hbox hb; have BK248 := Aside0.mk (hbox); have GW248 := sqg HB hg; have GE248 := sqg HB hg; have NB247_248 := sqn BK247 hg; have NB248_247 := sqm BK247 hg; replace BK247 := sqb BK247 hb; replace HB := sqs HB hb; clear hb hbox hg) | ((with_reducible refine gate_dst (N := 4) rfl ?_); refine sqx 4 #[.int .i64 0, .int .i64 0] 62 ?_; intro gb249 hg w6 hbox hb; have BK249 := Aside0.mk (hbox); have GW249 := sqg HB hg; have GE249 := sqg HB hg; have NB247_249 := sqn BK247 hg; have NB249_247 := sqm BK247 hg; have NB248_249 := sqn BK248 hg; have NB249_248 := sqm BK248 hg; replace BK247 := sqb BK247 hb; replace BK248 := sqb BK248 hb; replace HB := sqs HB hb; clear hb hbox hg)))
  (try simp only [Act.put, List.setIfInBounds_toArray, List.set_cons_zero, List.set_cons_succ])
  go_cut [16] (fun v16 wc => ∃ (kq : Nat) (x16_2 : Bool), v16 = .bool x16_2 ∧ Aside0 (impl_RestMeet.j0 kq x16_2 a0_0 a0_1 a1_0 a1_1 = some (r1, r2, r3)) ∧ Aside0 (kq ≤ k) ∧ Aside0 (wc.heap[gb247]? = some (.cells #[.int .i64 a0_0, .int .i64 a0_1] 62 (0, 0))) ∧ Aside0 (wc.heap[gb248]? = some (.cells #[.int .i64 a1_0, .int .i64 a1_1] 62 (0, 0))) ∧ Aside0 (wc.heap[gb249]? = some (.cells #[.int .i64 0, .int .i64 0] 62 (0, 0))) ∧ Aside0 (Below w.heap.size w wc))
  case first =>
    have H := HC3.out
    clear HC3
    replace H := Option.bind_eq_some_iff.mp H
    obtain ⟨t250, A70, H⟩ := H
    replace H : (if t250 = true then ((impl_RestOk.f a1_0 a1_1).bind fun t251 => (impl_RestMeet.j0 k (!t251) a0_0 a0_1 a1_0 a1_1)) else (impl_RestMeet.j0 k true a0_0 a0_1 a1_0 a1_1)) = some (r1, r2, r3) := H
    have A7 := Aside0.mk A70
    clear A70
    by_cases c8 : t250 = true
    · subst c8
      have H1 : ((impl_RestOk.f a1_0 a1_1).bind fun t251 => (impl_RestMeet.j0 k (!t251) a0_0 a0_1 a1_0 a1_1)) = some (r1, r2, r3) := by rw [if_pos rfl] at H; exact H
      clear H
      have H := H1
      clear H1
      replace H := Option.bind_eq_some_iff.mp H
      obtain ⟨t251, A90, H⟩ := H
      replace H : (impl_RestMeet.j0 k (!t251) a0_0 a0_1 a1_0 a1_1) = some (r1, r2, r3) := H
      have A9 := Aside0.mk A90
      clear A90
      have H' := Aside0.mk H
      clear H
      have hnb10 := NB247_248.out
      have hnc10 := NB248_247.out
      have hnb11 := NB247_249.out
      have hnc11 := NB249_247.out
      obtain ⟨hcz12_0, hcz12_1, hfz12_0, hfz12_1⟩ := sqc2 BK247
      go_wp2_with (first | (go_at_call 61; (with_reducible refine (impl_RestOk.calls a0_0 a0_1 true _ A7.out).mono ?_); rintro e w13 ⟨rfl, hb⟩; replace BK247 := sqb BK247 hb; replace BK248 := sqb BK248 hb; replace BK249 := sqb BK249 hb; replace HB := sqs HB hb; (try clear hb); have hnb14 := NB248_249.out; have hnc14 := NB249_248.out; obtain ⟨hcz15_0, hcz15_1, hfz15_0, hfz15_1⟩ := sqc2 BK248) | (go_at_call 61; (with_reducible refine (impl_RestOk.calls a1_0 a1_1 t251 _ A9.out).mono ?_); rintro e w16 ⟨rfl, hb⟩; replace BK247 := sqb BK247 hb; replace BK248 := sqb BK248 hb; replace BK249 := sqb BK249 hb; replace HB := sqs HB hb; (try clear hb)))
      repeat (go_quiet (first | (go_at_call 61; (with_reducible refine (impl_RestOk.calls a0_0 a0_1 true _ A7.out).mono ?_); rintro e w13 ⟨rfl, hb⟩; replace BK247 := sqb BK247 hb; replace BK248 := sqb BK248 hb; replace BK249 := sqb BK249 hb; replace HB := sqs HB hb; (try clear hb); have hnb14 := NB248_249.out; have hnc14 := NB249_248.out; obtain ⟨hcz15_0, hcz15_1, hfz15_0, hfz15_1⟩ := sqc2 BK248) | (go_at_call 61; (with_reducible refine (impl_RestOk.calls a1_0 a1_1 t251 _ A9.out).mono ?_); rintro e w16 ⟨rfl, hb⟩; replace BK247 := sqb BK247 hb; replace BK248 := sqb BK248 hb; replace BK249 := sqb BK249 hb; replace HB := sqs HB hb; (try clear hb))); try go_wp2_with (first | (go_at_call 61; (with_reducible refine (impl_RestOk.calls a0_0 a0_1 true _ A7.out).mono ?_); rintro e w13 ⟨rfl, hb⟩; replace BK247 := sqb BK247 hb; replace BK248 := sqb BK248 hb; replace BK249 := sqb BK249 hb; replace HB := sqs HB hb; (try clear hb); have hnb14 := NB248_249.out; have hnc14 := NB249_248.out; obtain ⟨hcz15_0, hcz15_1, hfz15_0, hfz15_1⟩ := sqc2 BK248) | (go_at_call 61; (with_reducible refine (impl_RestOk.calls a1_0 a1_1 t251 _ A9.out).mono ?_); rintro e w16 ⟨rfl, hb⟩; replace BK247 := sqb BK247 hb; replace BK248 := sqb BK248 hb; replace BK249 := sqb BK249 hb; replace HB := sqs HB hb; (try clear hb))))
      go_meet
      case rel => exact ⟨_, (!t251), (by first | rfl | (simp; done) | (simp [*]; done)), H', ⟨by first | omega | exact Nat.le_refl _⟩, sqk BK247, sqk BK248, sqk BK249, sqh HB⟩
    · replace c8 := Bool.eq_false_iff.mpr c8
      subst c8
      have H1 : (impl_RestMeet.j0 k true a0_0 a0_1 a1_0 a1_1) = some (r1, r2, r3) := by rw [if_neg (show ¬ (false = true) by decide)] at H; exact H
      clear H
      have H := H1
      clear H1
      have H' := Aside0.mk H
      clear H
      have hnb17 := NB247_248.out
      have hnc17 := NB248_247.out
      have hnb18 := NB247_249.out
      have hnc18 := NB249_247.out
      obtain ⟨hcz19_0, hcz19_1, hfz19_0, hfz19_1⟩ := sqc2 BK247
      go_wp2_with (first | (go_at_call 61; (with_reducible refine (impl_RestOk.calls a0_0 a0_1 false _ A7.out).mono ?_); rintro e w20 ⟨rfl, hb⟩; replace BK247 := sqb BK247 hb; replace BK248 := sqb BK248 hb; replace BK249 := sqb BK249 hb; replace HB := sqs HB hb; (try clear hb)))
      repeat (go_quiet (first | (go_at_call 61; (with_reducible refine (impl_RestOk.calls a0_0 a0_1 false _ A7.out).mono ?_); rintro e w20 ⟨rfl, hb⟩; replace BK247 := sqb BK247 hb; replace BK248 := sqb BK248 hb; replace BK249 := sqb BK249 hb; replace HB := sqs HB hb; (try clear hb))); try go_wp2_with (first | (go_at_call 61; (with_reducible refine (impl_RestOk.calls a0_0 a0_1 false _ A7.out).mono ?_); rintro e w20 ⟨rfl, hb⟩; replace BK247 := sqb BK247 hb; replace BK248 := sqb BK248 hb; replace BK249 := sqb BK249 hb; replace HB := sqs HB hb; (try clear hb))))
      go_meet
      case rel => exact ⟨_, (true), (by first | rfl | (simp; done) | (simp [*]; done)), H', ⟨by first | omega | exact Nat.le_refl _⟩, sqk BK247, sqk BK248, sqk BK249, sqh HB⟩
  case rest =>
    clear HC3
    obtain ⟨kq, x16_2, rfl, HA, HJ2, BK247, BK248, BK249, HB⟩ := hcut
    cases kq with
    | zero => exact absurd HA.out (by simp [impl_RestMeet.j0])
    | succ kj2 =>
      have H := HA.out
      clear HA
      simp only [impl_RestMeet.j0] at H
      by_cases c21 : x16_2 = true
      · subst c21
        have H1 : (some (0, 0, false)) = some (r1, r2, r3) := by rw [if_pos rfl] at H; exact H
        clear H
        have H := H1
        clear H1
        simp only [Option.some.injEq, Prod.mk.injEq] at H
        obtain ⟨rfl, rfl, rfl⟩ := H
        have hnb22 := NB249_247.out
        have hnc22 := NB247_249.out
        have hnb23 := NB249_248.out
        have hnc23 := NB248_249.out
        obtain ⟨hcz24_0, hcz24_1, hfz24_0, hfz24_1⟩ := sqc2 BK249
        go_wp2
        repeat (go_quiet (fail); try go_wp2)
        refine bodyPost_ret (results_ct rfl _ _ gb249 62 #[.int .i64 0, .int .i64 0] (0, 0) _ rfl (by refine sqt ?_; refine blk_put (cs := #[.int .i64 0, .int .i64 0]) ?_ 1 _ rfl; refine sqt ?_; refine blk_put (cs := #[.int .i64 0, .int .i64 0]) ?_ 0 _ rfl; refine sqt ?_; exact BK249.out) Try.underlying62 rfl (by kernel_rfl)) rfl ?_
        exact sqe HB
      · replace c21 := Bool.eq_false_iff.mpr c21
        subst c21
        have H1 : (if a0_0 = 0 then ((impl_RestHas.f kj2 a1_0 a1_1 a0_1).bind fun t252 => (if t252 = true then (some (a0_0, a0_1, true)) else (some (0, 0, false)))) else (if a1_0 = 0 then ((impl_RestHas.f kj2 a0_0 a0_1 a1_1).bind fun t253 => (if t253 = true then (some (a1_0, a1_1, true)) else (some (0, 0, false)))) else ((impl_restGcd.f kj2 (([a0_0, a1_0] : List Int))).bind fun t257 => (if t257 = 0 then (none) else (if (Int.tmod (wrap64 (a0_1 - a1_1)) t257) = 0 then (if a1_0 > a0_0 then (impl_RestMeet.j1 kj2 t257 a1_0 a1_1 a0_0 a0_1) else (impl_RestMeet.j1 kj2 t257 a0_0 a0_1 a1_0 a1_1)) else (some (0, 0, false))))))) = some (r1, r2, r3) := by rw [if_neg (show ¬ (false = true) by decide)] at H; exact H
        clear H
        have H := H1
        clear H1
        by_cases c25 : a0_0 = 0
        · rw [if_pos c25] at H
          have c25b0 : (a0_0 == 0) = true := beq_iff_eq.mpr c25
          have c25b1 : (a0_0 != 0) = false := bne_eq_false_iff_eq.mpr c25
          clear c25
          replace H := Option.bind_eq_some_iff.mp H
          obtain ⟨t252, A260, H⟩ := H
          replace H : (if t252 = true then (some (a0_0, a0_1, true)) else (some (0, 0, false))) = some (r1, r2, r3) := H
          have A26 := Aside0.mk A260
          clear A260
          by_cases c27 : t252 = true
          · subst c27
            have H1 : (some (a0_0, a0_1, true)) = some (r1, r2, r3) := by rw [if_pos rfl] at H; exact H
            clear H
            have H := H1
            clear H1
            simp only [Option.some.injEq, Prod.mk.injEq] at H
            obtain ⟨rfl, rfl, rfl⟩ := H
            have hnb28 := NB247_248.out
            have hnc28 := NB248_247.out
            have hnb29 := NB247_249.out
            have hnc29 := NB249_247.out
            obtain ⟨hcz30_0, hcz30_1, hfz30_0, hfz30_1⟩ := sqc2 BK247
            have hnb31 := NB248_249.out
            have hnc31 := NB249_248.out
            obtain ⟨hcz32_0, hcz32_1, hfz32_0, hfz32_1⟩ := sqc2 BK248
            go_wp2_with (first | (go_at_call 64; (with_reducible refine (impl_RestHas.calls kj2 a1_0 a1_1 a0_1 true _ A26.out).mono ?_); rintro e w33 ⟨rfl, hb⟩; replace BK247 := sqb BK247 hb; replace BK248 := sqb BK248 hb; replace BK249 := sqb BK249 hb; replace HB := sqs HB hb; (try clear hb); obtain ⟨hcz34_0, hcz34_1, hfz34_0, hfz34_1⟩ := sqc2 BK247; obtain ⟨hcz35_0, hcz35_1, hfz35_0, hfz35_1⟩ := sqc2 BK249))
            repeat (go_quiet (first | (go_at_call 64; (with_reducible refine (impl_RestHas.calls kj2 a1_0 a1_1 a0_1 true _ A26.out).mono ?_); rintro e w33 ⟨rfl, hb⟩; replace BK247 := sqb BK247 hb; replace BK248 := sqb BK248 hb; replace BK249 := sqb BK249 hb; replace HB := sqs HB hb; (try clear hb); obtain ⟨hcz34_0, hcz34_1, hfz34_0, hfz34_1⟩ := sqc2 BK247; obtain ⟨hcz35_0, hcz35_1, hfz35_0, hfz35_1⟩ := sqc2 BK249)); try go_wp2_with (first | (go_at_call 64; (with_reducible refine (impl_RestHas.calls kj2 a1_0 a1_1 a0_1 true _ A26.out).mono ?_); rintro e w33 ⟨rfl, hb⟩; replace BK247 := sqb BK247 hb; replace BK248 := sqb BK248 hb; replace BK249 := sqb BK249 hb; replace HB := sqs HB hb; (try clear hb); obtain ⟨hcz34_0, hcz34_1, hfz34_0, hfz34_1⟩ := sqc2 BK247; obtain ⟨hcz35_0, hcz35_1, hfz35_0, hfz35_1⟩ := sqc2 BK249)))
            refine bodyPost_ret (results_ct rfl _ _ gb249 62 #[.int .i64 a0_0, .int .i64 a0_1] (0, 0) _ rfl (by refine sqt ?_; refine blk_put (cs := #[.int .i64 a0_0, .int .i64 0]) ?_ 1 _ rfl; refine sqt ?_; refine blk_put (cs := #[.int .i64 0, .int .i64 0]) ?_ 0 _ rfl; refine sqt ?_; exact BK249.out) Try.underlying62 rfl (by kernel_rfl)) rfl ?_
            exact sqe HB
          · replace c27 := Bool.eq_false_iff.mpr c27
            subst c27
            have H1 : (some (0, 0, false)) = some (r1, r2, r3) := by rw [if_neg (show ¬ (false = true) by decide)] at H; exact H
            clear H
            have H := H1
            clear H1
            simp only [Option.some.injEq, Prod.mk.injEq] at H
            obtain ⟨rfl, rfl, rfl⟩ := H
            have hnb36 := NB247_248.out
            have hnc36 := NB248_247.out
            have hnb37 := NB247_249.out
            have hnc37 := NB249_247.out
            obtain ⟨hcz38_0, hcz38_1, hfz38_0, hfz38_1⟩ := sqc2 BK247
            have hnb39 := NB248_249.out
            have hnc39 := NB249_248.out
            obtain ⟨hcz40_0, hcz40_1, hfz40_0, hfz40_1⟩ := sqc2 BK248
            go_wp2_with (first | (go_at_call 64; (with_reducible refine (impl_RestHas.calls kj2 a1_0 a1_1 a0_1 false _ A26.out).mono ?_); rintro e w41 ⟨rfl, hb⟩; replace BK247 := sqb BK247 hb; replace BK248 := sqb BK248 hb; replace BK249 := sqb BK249 hb; replace HB := sqs HB hb; (try clear hb); obtain ⟨hcz42_0, hcz42_1, hfz42_0, hfz42_1⟩ := sqc2 BK249))
            repeat (go_quiet (first | (go_at_call 64; (with_reducible refine (impl_RestHas.calls kj2 a1_0 a1_1 a0_1 false _ A26.out).mono ?_); rintro e w41 ⟨rfl, hb⟩; replace BK247 := sqb BK247 hb; replace BK248 := sqb BK248 hb; replace BK249 := sqb BK249 hb; replace HB := sqs HB hb; (try clear hb); obtain ⟨hcz42_0, hcz42_1, hfz42_0, hfz42_1⟩ := sqc2 BK249)); try go_wp2_with (first | (go_at_call 64; (with_reducible refine (impl_RestHas.calls kj2 a1_0 a1_1 a0_1 false _ A26.out).mono ?_); rintro e w41 ⟨rfl, hb⟩; replace BK247 := sqb BK247 hb; replace BK248 := sqb BK248 hb; replace BK249 := sqb BK249 hb; replace HB := sqs HB hb; (try clear hb); obtain ⟨hcz42_0, hcz42_1, hfz42_0, hfz42_1⟩ := sqc2 BK249)))
            refine bodyPost_ret (results_ct rfl _ _ gb249 62 #[.int .i64 0, .int .i64 0] (0, 0) _ rfl (by refine sqt ?_; refine blk_put (cs := #[.int .i64 0, .int .i64 0]) ?_ 1 _ rfl; refine sqt ?_; refine blk_put (cs := #[.int .i64 0, .int .i64 0]) ?_ 0 _ rfl; refine sqt ?_; exact BK249.out) Try.underlying62 rfl (by kernel_rfl)) rfl ?_
            exact sqe HB
        · rw [if_neg c25] at H
          have c25b0 : (a0_0 == 0) = false := beq_eq_false_iff_ne.mpr c25
          have c25b1 : (a0_0 != 0) = true := bne_iff_ne.mpr c25
          by_cases c43 : a1_0 = 0
          · rw [if_pos c43] at H
            have c43b0 : (a1_0 == 0) = true := beq_iff_eq.mpr c43
            have c43b1 : (a1_0 != 0) = false := bne_eq_false_iff_eq.mpr c43
            clear c43
            replace H := Option.bind_eq_some_iff.mp H
            obtain ⟨t253, A440, H⟩ := H
            replace H : (if t253 = true then (some (a1_0, a1_1, true)) else (some (0, 0, false))) = some (r1, r2, r3) := H
            have A44 := Aside0.mk A440
            clear A440
            by_cases c45 : t253 = true
            · subst c45
              have H1 : (some (a1_0, a1_1, true)) = some (r1, r2, r3) := by rw [if_pos rfl] at H; exact H
              clear H
              have H := H1
              clear H1
              simp only [Option.some.injEq, Prod.mk.injEq] at H
              obtain ⟨rfl, rfl, rfl⟩ := H
              have hnb46 := NB247_248.out
              have hnc46 := NB248_247.out
              have hnb47 := NB247_249.out
              have hnc47 := NB249_247.out
              obtain ⟨hcz48_0, hcz48_1, hfz48_0, hfz48_1⟩ := sqc2 BK247
              have hnb49 := NB248_249.out
              have hnc49 := NB249_248.out
              obtain ⟨hcz50_0, hcz50_1, hfz50_0, hfz50_1⟩ := sqc2 BK248
              go_wp2_with (first | (go_at_call 64; (with_reducible refine (impl_RestHas.calls kj2 a0_0 a0_1 a1_1 true _ A44.out).mono ?_); rintro e w51 ⟨rfl, hb⟩; replace BK247 := sqb BK247 hb; replace BK248 := sqb BK248 hb; replace BK249 := sqb BK249 hb; replace HB := sqs HB hb; (try clear hb); obtain ⟨hcz52_0, hcz52_1, hfz52_0, hfz52_1⟩ := sqc2 BK248; obtain ⟨hcz53_0, hcz53_1, hfz53_0, hfz53_1⟩ := sqc2 BK249))
              repeat (go_quiet (first | (go_at_call 64; (with_reducible refine (impl_RestHas.calls kj2 a0_0 a0_1 a1_1 true _ A44.out).mono ?_); rintro e w51 ⟨rfl, hb⟩; replace BK247 := sqb BK247 hb; replace BK248 := sqb BK248 hb; replace BK249 := sqb BK249 hb; replace HB := sqs HB hb; (try clear hb); obtain ⟨hcz52_0, hcz52_1, hfz52_0, hfz52_1⟩ := sqc2 BK248; obtain ⟨hcz53_0, hcz53_1, hfz53_0, hfz53_1⟩ := sqc2 BK249)); try go_wp2_with (first | (go_at_call 64; (with_reducible refine (impl_RestHas.calls kj2 a0_0 a0_1 a1_1 true _ A44.out).mono ?_); rintro e w51 ⟨rfl, hb⟩; replace BK247 := sqb BK247 hb; replace BK248 := sqb BK248 hb; replace BK249 := sqb BK249 hb; replace HB := sqs HB hb; (try clear hb); obtain ⟨hcz52_0, hcz52_1, hfz52_0, hfz52_1⟩ := sqc2 BK248; obtain ⟨hcz53_0, hcz53_1, hfz53_0, hfz53_1⟩ := sqc2 BK249)))
              refine bodyPost_ret (results_ct rfl _ _ gb249 62 #[.int .i64 a1_0, .int .i64 a1_1] (0, 0) _ rfl (by refine sqt ?_; refine blk_put (cs := #[.int .i64 a1_0, .int .i64 0]) ?_ 1 _ rfl; refine sqt ?_; refine blk_put (cs := #[.int .i64 0, .int .i64 0]) ?_ 0 _ rfl; refine sqt ?_; exact BK249.out) Try.underlying62 rfl (by kernel_rfl)) rfl ?_
              exact sqe HB
            · replace c45 := Bool.eq_false_iff.mpr c45
              subst c45
              have H1 : (some (0, 0, false)) = some (r1, r2, r3) := by rw [if_neg (show ¬ (false = true) by decide)] at H; exact H
              clear H
              have H := H1
              clear H1
              simp only [Option.some.injEq, Prod.mk.injEq] at H
              obtain ⟨rfl, rfl, rfl⟩ := H
              have hnb54 := NB247_248.out
              have hnc54 := NB248_247.out
              have hnb55 := NB247_249.out
              have hnc55 := NB249_247.out
              obtain ⟨hcz56_0, hcz56_1, hfz56_0, hfz56_1⟩ := sqc2 BK247
              have hnb57 := NB248_249.out
              have hnc57 := NB249_248.out
              obtain ⟨hcz58_0, hcz58_1, hfz58_0, hfz58_1⟩ := sqc2 BK248
              go_wp2_with (first | (go_at_call 64; (with_reducible refine (impl_RestHas.calls kj2 a0_0 a0_1 a1_1 false _ A44.out).mono ?_); rintro e w59 ⟨rfl, hb⟩; replace BK247 := sqb BK247 hb; replace BK248 := sqb BK248 hb; replace BK249 := sqb BK249 hb; replace HB := sqs HB hb; (try clear hb); obtain ⟨hcz60_0, hcz60_1, hfz60_0, hfz60_1⟩ := sqc2 BK249))
              repeat (go_quiet (first | (go_at_call 64; (with_reducible refine (impl_RestHas.calls kj2 a0_0 a0_1 a1_1 false _ A44.out).mono ?_); rintro e w59 ⟨rfl, hb⟩; replace BK247 := sqb BK247 hb; replace BK248 := sqb BK248 hb; replace BK249 := sqb BK249 hb; replace HB := sqs HB hb; (try clear hb); obtain ⟨hcz60_0, hcz60_1, hfz60_0, hfz60_1⟩ := sqc2 BK249)); try go_wp2_with (first | (go_at_call 64; (with_reducible refine (impl_RestHas.calls kj2 a0_0 a0_1 a1_1 false _ A44.out).mono ?_); rintro e w59 ⟨rfl, hb⟩; replace BK247 := sqb BK247 hb; replace BK248 := sqb BK248 hb; replace BK249 := sqb BK249 hb; replace HB := sqs HB hb; (try clear hb); obtain ⟨hcz60_0, hcz60_1, hfz60_0, hfz60_1⟩ := sqc2 BK249)))
              refine bodyPost_ret (results_ct rfl _ _ gb249 62 #[.int .i64 0, .int .i64 0] (0, 0) _ rfl (by refine sqt ?_; refine blk_put (cs := #[.int .i64 0, .int .i64 0]) ?_ 1 _ rfl; refine sqt ?_; refine blk_put (cs := #[.int .i64 0, .int .i64 0]) ?_ 0 _ rfl; refine sqt ?_; exact BK249.out) Try.underlying62 rfl (by kernel_rfl)) rfl ?_
              exact sqe HB
          · rw [if_neg c43] at H
            have c43b0 : (a1_0 == 0) = false := beq_eq_false_iff_ne.mpr c43
            have c43b1 : (a1_0 != 0) = true := bne_iff_ne.mpr c43
            obtain ⟨y254, hy254⟩ : ∃ y_ : List Int, y_ = (([a0_0, a1_0] : List Int)) := ⟨_, rfl⟩
            replace H : ((impl_restGcd.f kj2 y254).bind fun t257 => (if t257 = 0 then (none) else (if (Int.tmod (wrap64 (a0_1 - a1_1)) t257) = 0 then (if a1_0 > a0_0 then (impl_RestMeet.j1 kj2 t257 a1_0 a1_1 a0_0 a0_1) else (impl_RestMeet.j1 kj2 t257 a0_0 a0_1 a1_0 a1_1)) else (some (0, 0, false))))) = some (r1, r2, r3) := by first | (rw [hy254]; with_reducible exact H) | (have H2_ := (Option.bind_some _ _).symm.trans H; rw [hy254]; with_reducible exact H2_) | (have H2_ := (Option.bind_some _ _).symm.trans H; with_reducible exact H2_) | with_reducible exact H | (rw [hy254]; exact H) | exact H
            have Ny254 := Aside0.mk hy254
            clear hy254
            replace H := Option.bind_eq_some_iff.mp H
            obtain ⟨t257, A610, H⟩ := H
            replace H : (if t257 = 0 then (none) else (if (Int.tmod (wrap64 (a0_1 - a1_1)) t257) = 0 then (if a1_0 > a0_0 then (impl_RestMeet.j1 kj2 t257 a1_0 a1_1 a0_0 a0_1) else (impl_RestMeet.j1 kj2 t257 a0_0 a0_1 a1_0 a1_1)) else (some (0, 0, false)))) = some (r1, r2, r3) := H
            have A61 := Aside0.mk A610
            clear A610
            by_cases c62 : t257 = 0
            · rw [if_pos c62] at H
              exact absurd H (by simp)
            · rw [if_neg c62] at H
              have c62b0 : (t257 == 0) = false := beq_eq_false_iff_ne.mpr c62
              have c62b1 : (t257 != 0) = true := bne_iff_ne.mpr c62
              by_cases c63 : (Int.tmod (wrap64 (a0_1 - a1_1)) t257) = 0
              · rw [if_pos c63] at H
                have c63b0 : ((Int.tmod (wrap64 (a0_1 - a1_1)) t257) == 0) = true := beq_iff_eq.mpr c63
                have c63b1 : ((Int.tmod (wrap64 (a0_1 - a1_1)) t257) != 0) = false := bne_eq_false_iff_eq.mpr c63
                clear c63
                have HC64 := Aside0.mk H
                clear H
                have hnb65 := NB247_248.out
                have hnc65 := NB248_247.out
                have hnb66 := NB247_249.out
                have hnc66 := NB249_247.out
                obtain ⟨hcz67_0, hcz67_1, hfz67_0, hfz67_1⟩ := sqc2 BK247
                have hnb68 := NB248_249.out
                have hnc68 := NB249_248.out
                obtain ⟨hcz69_0, hcz69_1, hfz69_0, hfz69_1⟩ := sqc2 BK248
                go_upto_if 55 with (first | ((with_reducible refine gate_dst (N := 40) rfl ?_); refine Kd.R_lit (Kd.int .i64) _ 3 ?hg (N := 40) ?hd (xs := ([a0_0, a1_0] : List Int)) (inner := [.int .i64 a0_0, .int .i64 a1_0]) (ok := fun _ => True) (okp := fun _ => True) ?hr ?hp (fun _ hk => hk) trivial (Below.refl _ _) (Nat.le_refl _) (by simp) ?_; (case hd => rfl); (case hg => rfl); (case hr => first | (go_simp; done) | (go_simp; rfl)); (case hp => exact (Reps.one (show Kd.M (Kd.int .i64) _ _ _ a0_0 [.int .i64 a0_0] from rfl) (Reps.one (show Kd.M (Kd.int .i64) _ _ _ a1_0 [.int .i64 a1_0] from rfl) (Reps.none _ _)))); intro v255 w70 ho71 hb hg_ hnew_; clear hg_ hnew_; (first | rw [← Ny254.out] at ho71 | (simp only [Int.reduceToNat] at ho71; rw [← Ny254.out] at ho71)); have HO256 := Aside0.mk (Kd.R_lower ho71 (below_size (by repeat (first | (with_reducible first | exact HB.out | apply below_alloc | apply pw_below_drewN | apply below_drew1 | refine below_set ?_ GE247.out | refine below_set ?_ GE248.out | refine below_set ?_ GE249.out) | exact HB.out)))); replace BK247 := sqb BK247 hb; replace BK248 := sqb BK248 hb; replace BK249 := sqb BK249 hb; replace HB := sqs HB hb; clear hb ho71; obtain ⟨Ao72, co72, eo72⟩ := Kd.R_slice HO256.out; subst eo72) | (go_at_call 107; (with_reducible refine (impl_restGcd.calls kj2 _ _ y254 t257 _ ?side1 ?side2 A61.out).mono ?_); (case side1 => repeat (first | exact (Kd.R_reads' HO256.out).2.2 | (with_reducible refine Kd.C_alloc ?_ _) | (with_reducible refine Kd.C_drewN ?_ _) | (with_reducible refine Kd.C_drew ?_))); (case side2 => exact (Kd.R_reads' HO256.out).2.1); rintro e w' ⟨rfl, ⟨nd, rfl⟩⟩; (try first | exact ⟨rfl, _, World.drewN_drewN _ _ _⟩ | exact ⟨rfl, _, Eq.trans (World.drewN_drewN _ _ _) (congrArg (World.drewN _) (Nat.add_assoc _ _ _))⟩); obtain ⟨hcz73_0, hcz73_1, hfz73_0, hfz73_1⟩ := sqc2 BK247; obtain ⟨hcz74_0, hcz74_1, hfz74_0, hfz74_1⟩ := sqc2 BK248))
                repeat (go_quiet (first | ((with_reducible refine gate_dst (N := 40) rfl ?_); refine Kd.R_lit (Kd.int .i64) _ 3 ?hg (N := 40) ?hd (xs := ([a0_0, a1_0] : List Int)) (inner := [.int .i64 a0_0, .int .i64 a1_0]) (ok := fun _ => True) (okp := fun _ => True) ?hr ?hp (fun _ hk => hk) trivial (Below.refl _ _) (Nat.le_refl _) (by simp) ?_; (case hd => rfl); (case hg => rfl); (case hr => first | (go_simp; done) | (go_simp; rfl)); (case hp => exact (Reps.one (show Kd.M (Kd.int .i64) _ _ _ a0_0 [.int .i64 a0_0] from rfl) (Reps.one (show Kd.M (Kd.int .i64) _ _ _ a1_0 [.int .i64 a1_0] from rfl) (Reps.none _ _)))); intro v255 w70 ho71 hb hg_ hnew_; clear hg_ hnew_; (first | rw [← Ny254.out] at ho71 | (simp only [Int.reduceToNat] at ho71; rw [← Ny254.out] at ho71)); have HO256 := Aside0.mk (Kd.R_lower ho71 (below_size (by repeat (first | (with_reducible first | exact HB.out | apply below_alloc | apply pw_below_drewN | apply below_drew1 | refine below_set ?_ GE247.out | refine below_set ?_ GE248.out | refine below_set ?_ GE249.out) | exact HB.out)))); replace BK247 := sqb BK247 hb; replace BK248 := sqb BK248 hb; replace BK249 := sqb BK249 hb; replace HB := sqs HB hb; clear hb ho71; obtain ⟨Ao72, co72, eo72⟩ := Kd.R_slice HO256.out; subst eo72) | (go_at_call 107; (with_reducible refine (impl_restGcd.calls kj2 _ _ y254 t257 _ ?side1 ?side2 A61.out).mono ?_); (case side1 => repeat (first | exact (Kd.R_reads' HO256.out).2.2 | (with_reducible refine Kd.C_alloc ?_ _) | (with_reducible refine Kd.C_drewN ?_ _) | (with_reducible refine Kd.C_drew ?_))); (case side2 => exact (Kd.R_reads' HO256.out).2.1); rintro e w' ⟨rfl, ⟨nd, rfl⟩⟩; (try first | exact ⟨rfl, _, World.drewN_drewN _ _ _⟩ | exact ⟨rfl, _, Eq.trans (World.drewN_drewN _ _ _) (congrArg (World.drewN _) (Nat.add_assoc _ _ _))⟩); obtain ⟨hcz73_0, hcz73_1, hfz73_0, hfz73_1⟩ := sqc2 BK247; obtain ⟨hcz74_0, hcz74_1, hfz74_0, hfz74_1⟩ := sqc2 BK248)); go_upto_if 55 with (first | ((with_reducible refine gate_dst (N := 40) rfl ?_); refine Kd.R_lit (Kd.int .i64) _ 3 ?hg (N := 40) ?hd (xs := ([a0_0, a1_0] : List Int)) (inner := [.int .i64 a0_0, .int .i64 a1_0]) (ok := fun _ => True) (okp := fun _ => True) ?hr ?hp (fun _ hk => hk) trivial (Below.refl _ _) (Nat.le_refl _) (by simp) ?_; (case hd => rfl); (case hg => rfl); (case hr => first | (go_simp; done) | (go_simp; rfl)); (case hp => exact (Reps.one (show Kd.M (Kd.int .i64) _ _ _ a0_0 [.int .i64 a0_0] from rfl) (Reps.one (show Kd.M (Kd.int .i64) _ _ _ a1_0 [.int .i64 a1_0] from rfl) (Reps.none _ _)))); intro v255 w70 ho71 hb hg_ hnew_; clear hg_ hnew_; (first | rw [← Ny254.out] at ho71 | (simp only [Int.reduceToNat] at ho71; rw [← Ny254.out] at ho71)); have HO256 := Aside0.mk (Kd.R_lower ho71 (below_size (by repeat (first | (with_reducible first | exact HB.out | apply below_alloc | apply pw_below_drewN | apply below_drew1 | refine below_set ?_ GE247.out | refine below_set ?_ GE248.out | refine below_set ?_ GE249.out) | exact HB.out)))); replace BK247 := sqb BK247 hb; replace BK248 := sqb BK248 hb; replace BK249 := sqb BK249 hb; replace HB := sqs HB hb; clear hb ho71; obtain ⟨Ao72, co72, eo72⟩ := Kd.R_slice HO256.out; subst eo72) | (go_at_call 107; (with_reducible refine (impl_restGcd.calls kj2 _ _ y254 t257 _ ?side1 ?side2 A61.out).mono ?_); (case side1 => repeat (first | exact (Kd.R_reads' HO256.out).2.2 | (with_reducible refine Kd.C_alloc ?_ _) | (with_reducible refine Kd.C_drewN ?_ _) | (with_reducible refine Kd.C_drew ?_))); (case side2 => exact (Kd.R_reads' HO256.out).2.1); rintro e w' ⟨rfl, ⟨nd, rfl⟩⟩; (try first | exact ⟨rfl, _, World.drewN_drewN _ _ _⟩ | exact ⟨rfl, _, Eq.trans (World.drewN_drewN _ _ _) (congrArg (World.drewN _) (Nat.add_assoc _ _ _))⟩); obtain ⟨hcz73_0, hcz73_1, hfz73_0, hfz73_1⟩ := sqc2 BK247; obtain ⟨hcz74_0, hcz74_1, hfz74_0, hfz74_1⟩ := sqc2 BK248)))
                (try simp only [Act.put, List.setIfInBounds_toArray, List.set_cons_zero, List.set_cons_succ])
                go_cut [] (fun wc => ∃ (kq : Nat) (x248000_63 : Int) (x248001_63 : Int) (x249000_63 : Int) (x249001_63 : Int), Aside0 (impl_RestMeet.j1 kq t257 x248000_63 x248001_63 x249000_63 x249001_63 = some (r1, r2, r3)) ∧ Aside0 (kq ≤ kj2) ∧ Aside0 (wc.heap[gb247]? = some (.cells #[.int .i64 x248000_63, .int .i64 x248001_63] 62 (0, 0))) ∧ Aside0 (wc.heap[gb248]? = some (.cells #[.int .i64 x249000_63, .int .i64 x249001_63] 62 (0, 0))) ∧ Aside0 (wc.heap[gb249]? = some (.cells #[.int .i64 0, .int .i64 0] 62 (0, 0))) ∧ Aside0 (Below w.heap.size w wc))
                case first =>
                  have H := HC64.out
                  clear HC64
                  by_cases c75 : a1_0 > a0_0
                  · rw [if_pos c75] at H
                    have c75b0 : decide (a0_0 < a1_0) = true := decide_eq_true c75
                    clear c75
                    (first | rw [c75b0] | (simp only [i64_w, i32_w]; rw [c75b0]) | skip)
                    have H' := Aside0.mk H
                    clear H
                    have hnb76 := NB248_247.out
                    have hnc76 := NB247_248.out
                    have hnb77 := NB248_249.out
                    have hnc77 := NB249_248.out
                    obtain ⟨hcz78_0, hcz78_1, hfz78_0, hfz78_1⟩ := sqc2 BK248
                    have hnb79 := NB247_249.out
                    have hnc79 := NB249_247.out
                    obtain ⟨hcz80_0, hcz80_1, hfz80_0, hfz80_1⟩ := sqc2 BK247
                    go_wp2
                    repeat (go_quiet (fail); try go_wp2)
                    go_meet
                    case rel => exact ⟨_, (a1_0), (a1_1), (a0_0), (a0_1), H', ⟨by have := HJ2.out; first | omega | exact Nat.le_refl _⟩, ⟨by refine sqt ?_; refine blk_far ?_ NB247_248.out _; refine sqt ?_; refine blk_far ?_ NB247_248.out _; refine sqt ?_; refine blk_put (cs := #[.int .i64 a1_0, .int .i64 a0_1]) ?_ 1 _ rfl; refine sqt ?_; refine blk_put (cs := #[.int .i64 a0_0, .int .i64 a0_1]) ?_ 0 _ rfl; refine sqt ?_; exact BK247.out⟩, ⟨by refine sqt ?_; refine blk_put (cs := #[.int .i64 a0_0, .int .i64 a1_1]) ?_ 1 _ rfl; refine sqt ?_; refine blk_put (cs := #[.int .i64 a1_0, .int .i64 a1_1]) ?_ 0 _ rfl; refine sqt ?_; refine blk_far ?_ NB248_247.out _; refine sqt ?_; refine blk_far ?_ NB248_247.out _; refine sqt ?_; exact BK248.out⟩, ⟨by refine sqt ?_; refine blk_far ?_ NB249_248.out _; refine sqt ?_; refine blk_far ?_ NB249_248.out _; refine sqt ?_; refine blk_far ?_ NB249_247.out _; refine sqt ?_; refine blk_far ?_ NB249_247.out _; refine sqt ?_; exact BK249.out⟩, sqh HB⟩
                  · rw [if_neg c75] at H
                    have c75b0 : decide (a0_0 < a1_0) = false := decide_eq_false c75
                    clear c75
                    (first | rw [c75b0] | (simp only [i64_w, i32_w]; rw [c75b0]) | skip)
                    have H' := Aside0.mk H
                    clear H
                    go_wp2
                    repeat (go_quiet (fail); try go_wp2)
                    go_meet
                    case rel => exact ⟨_, (a0_0), (a0_1), (a1_0), (a1_1), H', ⟨by have := HJ2.out; first | omega | exact Nat.le_refl _⟩, sqk BK247, sqk BK248, sqk BK249, sqh HB⟩
                case rest =>
                  clear HC64
                  try clear c8
                  try clear c21
                  try clear c25
                  try clear c25b0
                  try clear c25b1
                  try clear c27
                  try clear c43
                  try clear c43b0
                  try clear c43b1
                  try clear c45
                  try clear c62
                  try clear c62b0
                  try clear c62b1
                  try clear c63
                  try clear c63b0
                  try clear c63b1
                  try clear hcz12_0
                  try clear hcz12_1
                  try clear hcz15_0
                  try clear hcz15_1
                  try clear hcz19_0
                  try clear hcz19_1
                  try clear hcz24_0
                  try clear hcz24_1
                  try clear hcz30_0
                  try clear hcz30_1
                  try clear hcz32_0
                  try clear hcz32_1
                  try clear hcz34_0
                  try clear hcz34_1
                  try clear hcz35_0
                  try clear hcz35_1
                  try clear hcz38_0
                  try clear hcz38_1
                  try clear hcz40_0
                  try clear hcz40_1
                  try clear hcz42_0
                  try clear hcz42_1
                  try clear hcz48_0
                  try clear hcz48_1
                  try clear hcz50_0
                  try clear hcz50_1
                  try clear hcz52_0
                  try clear hcz52_1
                  try clear hcz53_0
                  try clear hcz53_1
                  try clear hcz56_0
                  try clear hcz56_1
                  try clear hcz58_0
                  try clear hcz58_1
                  try clear hcz60_0
                  try clear hcz60_1
                  try clear hcz67_0
                  try clear hcz67_1
                  try clear hcz69_0
                  try clear hcz69_1
                  try clear hcz73_0
                  try clear hcz73_1
                  try clear hcz74_0
                  try clear hcz74_1
                  try clear hfz12_0
                  try clear hfz12_1
                  try clear hfz15_0
                  try clear hfz15_1
                  try clear hfz19_0
                  try clear hfz19_1
                  try clear hfz24_0
                  try clear hfz24_1
                  try clear hfz30_0
                  try clear hfz30_1
                  try clear hfz32_0
                  try clear hfz32_1
                  try clear hfz34_0
                  try clear hfz34_1
                  try clear hfz35_0
                  try clear hfz35_1
                  try clear hfz38_0
                  try clear hfz38_1
                  try clear hfz40_0
                  try clear hfz40_1
                  try clear hfz42_0
                  try clear hfz42_1
                  try clear hfz48_0
                  try clear hfz48_1
                  try clear hfz50_0
                  try clear hfz50_1
                  try clear hfz52_0
                  try clear hfz52_1
                  try clear hfz53_0
                  try clear hfz53_1
                  try clear hfz56_0
                  try clear hfz56_1
                  try clear hfz58_0
                  try clear hfz58_1
                  try clear hfz60_0
                  try clear hfz60_1
                  try clear hfz67_0
                  try clear hfz67_1
                  try clear hfz69_0
                  try clear hfz69_1
                  try clear hfz73_0
                  try clear hfz73_1
                  try clear hfz74_0
                  try clear hfz74_1
                  obtain ⟨kq, x248000_63, x248001_63, x249000_63, x249001_63, HA, HJ63, BK247, BK248, BK249, HB⟩ := hcut
                  cases kq with
                  | zero => exact absurd HA.out (by simp [impl_RestMeet.j1])
                  | succ kj63 =>
                    have H := HA.out
                    clear HA
                    simp only [impl_RestMeet.j1] at H
                    by_cases c81 : t257 = 0
                    · rw [if_pos c81] at H
                      exact absurd H (by simp)
                    · rw [if_neg c81] at H
                      have c81b0 : (t257 == 0) = false := beq_eq_false_iff_ne.mpr c81
                      have c81b1 : (t257 != 0) = true := bne_iff_ne.mpr c81
                      by_cases c82 : (wrap64 ((wrap64 (Int.tdiv x248000_63 t257)) * x249000_63)) > 65536
                      · rw [if_pos c82] at H
                        have c82b0 : decide (65536 < (wrap64 ((wrap64 (Int.tdiv x248000_63 t257)) * x249000_63))) = true := decide_eq_true c82
                        clear c82
                        simp only [Option.some.injEq, Prod.mk.injEq] at H
                        obtain ⟨rfl, rfl, rfl⟩ := H
                        have hnb83 := NB247_248.out
                        have hnc83 := NB248_247.out
                        have hnb84 := NB247_249.out
                        have hnc84 := NB249_247.out
                        obtain ⟨hcz85_0, hcz85_1, hfz85_0, hfz85_1⟩ := sqc2 BK247
                        have hnb86 := NB248_249.out
                        have hnc86 := NB249_248.out
                        obtain ⟨hcz87_0, hcz87_1, hfz87_0, hfz87_1⟩ := sqc2 BK248
                        obtain ⟨hcz88_0, hcz88_1, hfz88_0, hfz88_1⟩ := sqc2 BK249
                        go_wp2
                        repeat (go_quiet (fail); try go_wp2)
                        refine bodyPost_ret (results_ct rfl _ _ gb249 62 #[.int .i64 x248000_63, .int .i64 x248001_63] (0, 0) _ rfl (by refine sqt ?_; refine blk_put (cs := #[.int .i64 x248000_63, .int .i64 0]) ?_ 1 _ rfl; refine sqt ?_; refine blk_put (cs := #[.int .i64 0, .int .i64 0]) ?_ 0 _ rfl; refine sqt ?_; exact BK249.out) Try.underlying62 rfl (by kernel_rfl)) rfl ?_
                        exact sqe HB
                      · rw [if_neg c82] at H
                        have c82b0 : decide (65536 < (wrap64 ((wrap64 (Int.tdiv x248000_63 t257)) * x249000_63))) = false := decide_eq_false c82
                        clear c82
                        have H' := Aside0.mk H
                        clear H
                        have hnb89 := NB247_248.out
                        have hnc89 := NB248_247.out
                        have hnb90 := NB247_249.out
                        have hnc90 := NB249_247.out
                        obtain ⟨hcz91_0, hcz91_1, hfz91_0, hfz91_1⟩ := sqc2 BK247
                        have hnb92 := NB248_249.out
                        have hnc92 := NB249_248.out
                        obtain ⟨hcz93_0, hcz93_1, hfz93_0, hfz93_1⟩ := sqc2 BK248
                        go_wp2
                        repeat (go_quiet (fail); try go_wp2)
                        go_loopg [8] kj63 (fun kq v8 w' => ∃ (x8_3 : Int), v8 = .int .i64 x8_3 ∧ Aside0 (impl_RestMeet.l0 kq (wrap64 ((wrap64 (Int.tdiv x248000_63 t257)) * x249000_63)) x8_3 x248000_63 x248001_63 x249000_63 x249001_63 = some (r1, r2, r3)) ∧ Aside0 (kq ≤ kj63) ∧ Aside0 (w'.heap[gb247]? = some (.cells #[.int .i64 x248000_63, .int .i64 x248001_63] 62 (0, 0))) ∧ Aside0 (w'.heap[gb248]? = some (.cells #[.int .i64 x249000_63, .int .i64 x249001_63] 62 (0, 0))) ∧ Aside0 (w'.heap[gb249]? = some (.cells #[.int .i64 0, .int .i64 0] 62 (0, 0))) ∧ Aside0 (Below w.heap.size w w'))
                        case atStart => exact ⟨(x248001_63), (by first | rfl | (simp; done) | (simp [*]; done)), H', ⟨Nat.le_refl _⟩, sqk BK247, sqk BK248, sqk BK249, sqh HB⟩
                        case round =>
                          clear H'
                          try clear c1
                          try clear c2
                          try clear p2
                          try clear c3
                          try clear c4
                          try clear c5
                          try clear c6
                          try clear p6
                          try clear c7
                          try clear c8
                          try clear c9
                          try clear c10
                          try clear c11
                          try clear c14
                          try clear c17
                          try clear c18
                          try clear c21
                          try clear c22
                          try clear c23
                          try clear c25
                          try clear c25b0
                          try clear c25b1
                          try clear c27
                          try clear c28
                          try clear c29
                          try clear c31
                          try clear c36
                          try clear c37
                          try clear c39
                          try clear c43
                          try clear c43b0
                          try clear c43b1
                          try clear c45
                          try clear c46
                          try clear c47
                          try clear c49
                          try clear c54
                          try clear c55
                          try clear c56
                          try clear c57
                          try clear c62
                          try clear c62b0
                          try clear c62b1
                          try clear c63
                          try clear c63b0
                          try clear c63b1
                          try clear p64
                          try clear c65
                          try clear c66
                          try clear c68
                          try clear c75
                          try clear c75b0
                          try clear c76
                          try clear c77
                          try clear c79
                          try clear c81
                          try clear c81b0
                          try clear c81b1
                          try clear c82
                          try clear c82b0
                          try clear c83
                          try clear c84
                          try clear c86
                          try clear c89
                          try clear c90
                          try clear c92
                          try clear hcz12_0
                          try clear hcz12_1
                          try clear hcz15_0
                          try clear hcz15_1
                          try clear hcz19_0
                          try clear hcz19_1
                          try clear hcz24_0
                          try clear hcz24_1
                          try clear hcz30_0
                          try clear hcz30_1
                          try clear hcz32_0
                          try clear hcz32_1
                          try clear hcz34_0
                          try clear hcz34_1
                          try clear hcz35_0
                          try clear hcz35_1
                          try clear hcz38_0
                          try clear hcz38_1
                          try clear hcz40_0
                          try clear hcz40_1
                          try clear hcz42_0
                          try clear hcz42_1
                          try clear hcz48_0
                          try clear hcz48_1
                          try clear hcz50_0
                          try clear hcz50_1
                          try clear hcz52_0
                          try clear hcz52_1
                          try clear hcz53_0
                          try clear hcz53_1
                          try clear hcz56_0
                          try clear hcz56_1
                          try clear hcz58_0
                          try clear hcz58_1
                          try clear hcz60_0
                          try clear hcz60_1
                          try clear hcz67_0
                          try clear hcz67_1
                          try clear hcz69_0
                          try clear hcz69_1
                          try clear hcz73_0
                          try clear hcz73_1
                          try clear hcz74_0
                          try clear hcz74_1
                          try clear hcz78_0
                          try clear hcz78_1
                          try clear hcz80_0
                          try clear hcz80_1
                          try clear hcz85_0
                          try clear hcz85_1
                          try clear hcz87_0
                          try clear hcz87_1
                          try clear hcz88_0
                          try clear hcz88_1
                          try clear hcz91_0
                          try clear hcz91_1
                          try clear hcz93_0
                          try clear hcz93_1
                          try clear hfz12_0
                          try clear hfz12_1
                          try clear hfz15_0
                          try clear hfz15_1
                          try clear hfz19_0
                          try clear hfz19_1
                          try clear hfz24_0
                          try clear hfz24_1
                          try clear hfz30_0
                          try clear hfz30_1
                          try clear hfz32_0
                          try clear hfz32_1
                          try clear hfz34_0
                          try clear hfz34_1
                          try clear hfz35_0
                          try clear hfz35_1
                          try clear hfz38_0
                          try clear hfz38_1
                          try clear hfz40_0
                          try clear hfz40_1
                          try clear hfz42_0
                          try clear hfz42_1
                          try clear hfz48_0
                          try clear hfz48_1
                          try clear hfz50_0
                          try clear hfz50_1
                          try clear hfz52_0
                          try clear hfz52_1
                          try clear hfz53_0
                          try clear hfz53_1
                          try clear hfz56_0
                          try clear hfz56_1
                          try clear hfz58_0
                          try clear hfz58_1
                          try clear hfz60_0
                          try clear hfz60_1
                          try clear hfz67_0
                          try clear hfz67_1
                          try clear hfz69_0
                          try clear hfz69_1
                          try clear hfz73_0
                          try clear hfz73_1
                          try clear hfz74_0
                          try clear hfz74_1
                          try clear hfz78_0
                          try clear hfz78_1
                          try clear hfz80_0
                          try clear hfz80_1
                          try clear hfz85_0
                          try clear hfz85_1
                          try clear hfz87_0
                          try clear hfz87_1
                          try clear hfz88_0
                          try clear hfz88_1
                          try clear hfz91_0
                          try clear hfz91_1
                          try clear hfz93_0
                          try clear hfz93_1
                          try clear p2
                          try clear p6
                          try clear p64
                          obtain ⟨x8_3, rfl, HA, HK3, BK247, BK248, BK249, HB⟩ := hrel
                          cases gk with
                          | zero => exact absurd HA.out (by simp [impl_RestMeet.l0])
                          | succ k3 =>
                            have H := HA.out
                            clear HA
                            simp only [impl_RestMeet.l0] at H
                            replace H := Option.bind_eq_some_iff.mp H
                            obtain ⟨t258, A940, H⟩ := H
                            replace H : (if t258 = x249001_63 then (some ((wrap64 ((wrap64 (Int.tdiv x248000_63 t257)) * x249000_63)), x8_3, true)) else (impl_RestMeet.l0 k3 (wrap64 ((wrap64 (Int.tdiv x248000_63 t257)) * x249000_63)) (wrap64 (x8_3 + x248000_63)) x248000_63 x248001_63 x249000_63 x249001_63)) = some (r1, r2, r3) := H
                            have A94 := Aside0.mk A940
                            clear A940
                            by_cases c95 : t258 = x249001_63
                            · rw [if_pos c95] at H
                              have c95b0 : (t258 == x249001_63) = true := beq_iff_eq.mpr c95
                              have c95b1 : (t258 != x249001_63) = false := bne_eq_false_iff_eq.mpr c95
                              clear c95
                              simp only [Option.some.injEq, Prod.mk.injEq] at H
                              obtain ⟨rfl, rfl, rfl⟩ := H
                              have hnb96 := NB248_247.out
                              have hnc96 := NB247_248.out
                              have hnb97 := NB248_249.out
                              have hnc97 := NB249_248.out
                              obtain ⟨hcz98_0, hcz98_1, hfz98_0, hfz98_1⟩ := sqc2 BK248
                              go_wp2_with (first | (go_at_call 108; (with_reducible refine (impl_restMod.calls x8_3 x249000_63 t258 _ A94.out).mono ?_); rintro e w' ⟨rfl, ⟨nd, rfl⟩⟩; (try first | exact ⟨rfl, _, World.drewN_drewN _ _ _⟩ | exact ⟨rfl, _, Eq.trans (World.drewN_drewN _ _ _) (congrArg (World.drewN _) (Nat.add_assoc _ _ _))⟩); have hnb99 := NB249_247.out; have hnc99 := NB247_249.out; obtain ⟨hcz100_0, hcz100_1, hfz100_0, hfz100_1⟩ := sqc2 BK249))
                              repeat (go_quiet (first | (go_at_call 108; (with_reducible refine (impl_restMod.calls x8_3 x249000_63 t258 _ A94.out).mono ?_); rintro e w' ⟨rfl, ⟨nd, rfl⟩⟩; (try first | exact ⟨rfl, _, World.drewN_drewN _ _ _⟩ | exact ⟨rfl, _, Eq.trans (World.drewN_drewN _ _ _) (congrArg (World.drewN _) (Nat.add_assoc _ _ _))⟩); have hnb99 := NB249_247.out; have hnc99 := NB247_249.out; obtain ⟨hcz100_0, hcz100_1, hfz100_0, hfz100_1⟩ := sqc2 BK249)); try go_wp2_with (first | (go_at_call 108; (with_reducible refine (impl_restMod.calls x8_3 x249000_63 t258 _ A94.out).mono ?_); rintro e w' ⟨rfl, ⟨nd, rfl⟩⟩; (try first | exact ⟨rfl, _, World.drewN_drewN _ _ _⟩ | exact ⟨rfl, _, Eq.trans (World.drewN_drewN _ _ _) (congrArg (World.drewN _) (Nat.add_assoc _ _ _))⟩); have hnb99 := NB249_247.out; have hnc99 := NB247_249.out; obtain ⟨hcz100_0, hcz100_1, hfz100_0, hfz100_1⟩ := sqc2 BK249)))
                              refine bodyPost_ret (results_ct rfl _ _ gb249 62 #[.int .i64 (wrap64 ((wrap64 (Int.tdiv x248000_63 t257)) * x249000_63)), .int .i64 x8_3] (0, 0) _ rfl (by refine sqt ?_; refine blk_put (cs := #[.int .i64 (wrap64 ((wrap64 (Int.tdiv x248000_63 t257)) * x249000_63)), .int .i64 0]) ?_ 1 _ rfl; refine sqt ?_; refine blk_put (cs := #[.int .i64 0, .int .i64 0]) ?_ 0 _ rfl; refine sqt ?_; exact BK249.out) Try.underlying62 rfl (by kernel_rfl)) rfl ?_
                              exact sqe HB
                            · rw [if_neg c95] at H
                              have c95b0 : (t258 == x249001_63) = false := beq_eq_false_iff_ne.mpr c95
                              have c95b1 : (t258 != x249001_63) = true := bne_iff_ne.mpr c95
                              have H' := Aside0.mk H
                              clear H
                              have hnb101 := NB248_247.out
                              have hnc101 := NB247_248.out
                              have hnb102 := NB248_249.out
                              have hnc102 := NB249_248.out
                              obtain ⟨hcz103_0, hcz103_1, hfz103_0, hfz103_1⟩ := sqc2 BK248
                              go_wp2_with (first | (go_at_call 108; (with_reducible refine (impl_restMod.calls x8_3 x249000_63 t258 _ A94.out).mono ?_); rintro e w' ⟨rfl, ⟨nd, rfl⟩⟩; (try first | exact ⟨rfl, _, World.drewN_drewN _ _ _⟩ | exact ⟨rfl, _, Eq.trans (World.drewN_drewN _ _ _) (congrArg (World.drewN _) (Nat.add_assoc _ _ _))⟩); have hnb104 := NB247_249.out; have hnc104 := NB249_247.out; obtain ⟨hcz105_0, hcz105_1, hfz105_0, hfz105_1⟩ := sqc2 BK247))
                              repeat (go_quiet (first | (go_at_call 108; (with_reducible refine (impl_restMod.calls x8_3 x249000_63 t258 _ A94.out).mono ?_); rintro e w' ⟨rfl, ⟨nd, rfl⟩⟩; (try first | exact ⟨rfl, _, World.drewN_drewN _ _ _⟩ | exact ⟨rfl, _, Eq.trans (World.drewN_drewN _ _ _) (congrArg (World.drewN _) (Nat.add_assoc _ _ _))⟩); have hnb104 := NB247_249.out; have hnc104 := NB249_247.out; obtain ⟨hcz105_0, hcz105_1, hfz105_0, hfz105_1⟩ := sqc2 BK247)); try go_wp2_with (first | (go_at_call 108; (with_reducible refine (impl_restMod.calls x8_3 x249000_63 t258 _ A94.out).mono ?_); rintro e w' ⟨rfl, ⟨nd, rfl⟩⟩; (try first | exact ⟨rfl, _, World.drewN_drewN _ _ _⟩ | exact ⟨rfl, _, Eq.trans (World.drewN_drewN _ _ _) (congrArg (World.drewN _) (Nat.add_assoc _ _ _))⟩); have hnb104 := NB247_249.out; have hnc104 := NB249_247.out; obtain ⟨hcz105_0, hcz105_1, hfz105_0, hfz105_1⟩ := sqc2 BK247)))
                              go_roundg k3
                              case measure => have := HJ2.out; have := HJ63.out; have := HK3.out; omega
                              case rel => exact ⟨(wrap64 (x8_3 + x248000_63)), (by first | rfl | (simp; done) | (simp [*]; done)), H', ⟨by have := HJ2.out; have := HJ63.out; have := HK3.out; omega⟩, sqk BK247, sqk BK248, sqk BK249, sqh HB⟩
              · rw [if_neg c63] at H
                have c63b0 : ((Int.tmod (wrap64 (a0_1 - a1_1)) t257) == 0) = false := beq_eq_false_iff_ne.mpr c63
                have c63b1 : ((Int.tmod (wrap64 (a0_1 - a1_1)) t257) != 0) = true := bne_iff_ne.mpr c63
                simp only [Option.some.injEq, Prod.mk.injEq] at H
                obtain ⟨rfl, rfl, rfl⟩ := H
                have hnb106 := NB247_248.out
                have hnc106 := NB248_247.out
                have hnb107 := NB247_249.out
                have hnc107 := NB249_247.out
                obtain ⟨hcz108_0, hcz108_1, hfz108_0, hfz108_1⟩ := sqc2 BK247
                have hnb109 := NB248_249.out
                have hnc109 := NB249_248.out
                obtain ⟨hcz110_0, hcz110_1, hfz110_0, hfz110_1⟩ := sqc2 BK248
                go_wp2_with (first | ((with_reducible refine gate_dst (N := 40) rfl ?_); refine Kd.R_lit (Kd.int .i64) _ 3 ?hg (N := 40) ?hd (xs := ([a0_0, a1_0] : List Int)) (inner := [.int .i64 a0_0, .int .i64 a1_0]) (ok := fun _ => True) (okp := fun _ => True) ?hr ?hp (fun _ hk => hk) trivial (Below.refl _ _) (Nat.le_refl _) (by simp) ?_; (case hd => rfl); (case hg => rfl); (case hr => first | (go_simp; done) | (go_simp; rfl)); (case hp => exact (Reps.one (show Kd.M (Kd.int .i64) _ _ _ a0_0 [.int .i64 a0_0] from rfl) (Reps.one (show Kd.M (Kd.int .i64) _ _ _ a1_0 [.int .i64 a1_0] from rfl) (Reps.none _ _)))); intro v255 w111 ho112 hb hg_ hnew_; clear hg_ hnew_; (first | rw [← Ny254.out] at ho112 | (simp only [Int.reduceToNat] at ho112; rw [← Ny254.out] at ho112)); have HO256 := Aside0.mk (Kd.R_lower ho112 (below_size (by repeat (first | (with_reducible first | exact HB.out | apply below_alloc | apply pw_below_drewN | apply below_drew1 | refine below_set ?_ GE247.out | refine below_set ?_ GE248.out | refine below_set ?_ GE249.out) | exact HB.out)))); replace BK247 := sqb BK247 hb; replace BK248 := sqb BK248 hb; replace BK249 := sqb BK249 hb; replace HB := sqs HB hb; clear hb ho112; obtain ⟨Ao113, co113, eo113⟩ := Kd.R_slice HO256.out; subst eo113) | (go_at_call 107; (with_reducible refine (impl_restGcd.calls kj2 _ _ y254 t257 _ ?side1 ?side2 A61.out).mono ?_); (case side1 => repeat (first | exact (Kd.R_reads' HO256.out).2.2 | (with_reducible refine Kd.C_alloc ?_ _) | (with_reducible refine Kd.C_drewN ?_ _) | (with_reducible refine Kd.C_drew ?_))); (case side2 => exact (Kd.R_reads' HO256.out).2.1); rintro e w' ⟨rfl, ⟨nd, rfl⟩⟩; (try first | exact ⟨rfl, _, World.drewN_drewN _ _ _⟩ | exact ⟨rfl, _, Eq.trans (World.drewN_drewN _ _ _) (congrArg (World.drewN _) (Nat.add_assoc _ _ _))⟩); obtain ⟨hcz114_0, hcz114_1, hfz114_0, hfz114_1⟩ := sqc2 BK247; obtain ⟨hcz115_0, hcz115_1, hfz115_0, hfz115_1⟩ := sqc2 BK248; obtain ⟨hcz116_0, hcz116_1, hfz116_0, hfz116_1⟩ := sqc2 BK249))
                repeat (go_quiet (first | ((with_reducible refine gate_dst (N := 40) rfl ?_); refine Kd.R_lit (Kd.int .i64) _ 3 ?hg (N := 40) ?hd (xs := ([a0_0, a1_0] : List Int)) (inner := [.int .i64 a0_0, .int .i64 a1_0]) (ok := fun _ => True) (okp := fun _ => True) ?hr ?hp (fun _ hk => hk) trivial (Below.refl _ _) (Nat.le_refl _) (by simp) ?_; (case hd => rfl); (case hg => rfl); (case hr => first | (go_simp; done) | (go_simp; rfl)); (case hp => exact (Reps.one (show Kd.M (Kd.int .i64) _ _ _ a0_0 [.int .i64 a0_0] from rfl) (Reps.one (show Kd.M (Kd.int .i64) _ _ _ a1_0 [.int .i64 a1_0] from rfl) (Reps.none _ _)))); intro v255 w111 ho112 hb hg_ hnew_; clear hg_ hnew_; (first | rw [← Ny254.out] at ho112 | (simp only [Int.reduceToNat] at ho112; rw [← Ny254.out] at ho112)); have HO256 := Aside0.mk (Kd.R_lower ho112 (below_size (by repeat (first | (with_reducible first | exact HB.out | apply below_alloc | apply pw_below_drewN | apply below_drew1 | refine below_set ?_ GE247.out | refine below_set ?_ GE248.out | refine below_set ?_ GE249.out) | exact HB.out)))); replace BK247 := sqb BK247 hb; replace BK248 := sqb BK248 hb; replace BK249 := sqb BK249 hb; replace HB := sqs HB hb; clear hb ho112; obtain ⟨Ao113, co113, eo113⟩ := Kd.R_slice HO256.out; subst eo113) | (go_at_call 107; (with_reducible refine (impl_restGcd.calls kj2 _ _ y254 t257 _ ?side1 ?side2 A61.out).mono ?_); (case side1 => repeat (first | exact (Kd.R_reads' HO256.out).2.2 | (with_reducible refine Kd.C_alloc ?_ _) | (with_reducible refine Kd.C_drewN ?_ _) | (with_reducible refine Kd.C_drew ?_))); (case side2 => exact (Kd.R_reads' HO256.out).2.1); rintro e w' ⟨rfl, ⟨nd, rfl⟩⟩; (try first | exact ⟨rfl, _, World.drewN_drewN _ _ _⟩ | exact ⟨rfl, _, Eq.trans (World.drewN_drewN _ _ _) (congrArg (World.drewN _) (Nat.add_assoc _ _ _))⟩); obtain ⟨hcz114_0, hcz114_1, hfz114_0, hfz114_1⟩ := sqc2 BK247; obtain ⟨hcz115_0, hcz115_1, hfz115_0, hfz115_1⟩ := sqc2 BK248; obtain ⟨hcz116_0, hcz116_1, hfz116_0, hfz116_1⟩ := sqc2 BK249)); try go_wp2_with (first | ((with_reducible refine gate_dst (N := 40) rfl ?_); refine Kd.R_lit (Kd.int .i64) _ 3 ?hg (N := 40) ?hd (xs := ([a0_0, a1_0] : List Int)) (inner := [.int .i64 a0_0, .int .i64 a1_0]) (ok := fun _ => True) (okp := fun _ => True) ?hr ?hp (fun _ hk => hk) trivial (Below.refl _ _) (Nat.le_refl _) (by simp) ?_; (case hd => rfl); (case hg => rfl); (case hr => first | (go_simp; done) | (go_simp; rfl)); (case hp => exact (Reps.one (show Kd.M (Kd.int .i64) _ _ _ a0_0 [.int .i64 a0_0] from rfl) (Reps.one (show Kd.M (Kd.int .i64) _ _ _ a1_0 [.int .i64 a1_0] from rfl) (Reps.none _ _)))); intro v255 w111 ho112 hb hg_ hnew_; clear hg_ hnew_; (first | rw [← Ny254.out] at ho112 | (simp only [Int.reduceToNat] at ho112; rw [← Ny254.out] at ho112)); have HO256 := Aside0.mk (Kd.R_lower ho112 (below_size (by repeat (first | (with_reducible first | exact HB.out | apply below_alloc | apply pw_below_drewN | apply below_drew1 | refine below_set ?_ GE247.out | refine below_set ?_ GE248.out | refine below_set ?_ GE249.out) | exact HB.out)))); replace BK247 := sqb BK247 hb; replace BK248 := sqb BK248 hb; replace BK249 := sqb BK249 hb; replace HB := sqs HB hb; clear hb ho112; obtain ⟨Ao113, co113, eo113⟩ := Kd.R_slice HO256.out; subst eo113) | (go_at_call 107; (with_reducible refine (impl_restGcd.calls kj2 _ _ y254 t257 _ ?side1 ?side2 A61.out).mono ?_); (case side1 => repeat (first | exact (Kd.R_reads' HO256.out).2.2 | (with_reducible refine Kd.C_alloc ?_ _) | (with_reducible refine Kd.C_drewN ?_ _) | (with_reducible refine Kd.C_drew ?_))); (case side2 => exact (Kd.R_reads' HO256.out).2.1); rintro e w' ⟨rfl, ⟨nd, rfl⟩⟩; (try first | exact ⟨rfl, _, World.drewN_drewN _ _ _⟩ | exact ⟨rfl, _, Eq.trans (World.drewN_drewN _ _ _) (congrArg (World.drewN _) (Nat.add_assoc _ _ _))⟩); obtain ⟨hcz114_0, hcz114_1, hfz114_0, hfz114_1⟩ := sqc2 BK247; obtain ⟨hcz115_0, hcz115_1, hfz115_0, hfz115_1⟩ := sqc2 BK248; obtain ⟨hcz116_0, hcz116_1, hfz116_0, hfz116_1⟩ := sqc2 BK249)))
                refine bodyPost_ret (results_ct rfl _ _ gb249 62 #[.int .i64 0, .int .i64 0] (0, 0) _ rfl (by refine sqt ?_; refine blk_put (cs := #[.int .i64 0, .int .i64 0]) ?_ 1 _ rfl; refine sqt ?_; refine blk_put (cs := #[.int .i64 0, .int .i64 0]) ?_ 0 _ rfl; refine sqt ?_; exact BK249.out) Try.underlying62 rfl (by kernel_rfl)) rfl ?_
                exact sqe HB

end Go.Proofs.Ytmdcgkkkfncieaa.PFnRestLattice
