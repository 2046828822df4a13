/- Functions of the program as plain Lean functions, and that calls of them come to what these tell. Conditions: those in each law. -/
import Derived.Test.YtmdcgkkkfncieaaSq
import Derived.Test.YtmdcgkkkfncieaaDFnRestLattice
import Derived.Test.YtmdcgkkkfncieaaQFnRestLatticex0
import Derived.Test.YtmdcgkkkfncieaaQFnRestLatticex2
namespace Go.Proofs.Ytmdcgkkkfncieaa.PFnRestLattice
open Go.RowKit Go.Proofs.Ytmdcgkkkfncieaa.Sq Go.Proofs.YtmdcgkkkfncieaaW.PrintWords Go.Proofs.YtmdcgkkkfncieaaW.PrintLast Go.Proofs.YtmdcgkkkfncieaaW.PrintMore
attribute [local go_sem] max2_int min2_int max_two min_two max_three min_three max_four min_four   -- for this text's walks alone
set_option linter.unusedVariables false
set_option linter.unusedSimpArgs false

/-! ### spec_RestHas: function 63 -/
theorem spec_RestHas.mono_l : ∀ k, (∀ y0 y1 y2 y3, LeO (spec_RestHas.j0 k y0 y1 y2 y3) (spec_RestHas.j0 (k + 1) y0 y1 y2 y3))
  | 0 => fun _ _ _ _ r h => by simp [spec_RestHas.j0] at h
  | k + 1 => by
    have ih0 := spec_RestHas.mono_l k
    · intro y0 y1 y2 y3
      unfold spec_RestHas.j0
      repeat' first
      | (with_reducible exact ih0 _ _ _ _)
      | (with_reducible exact LeO.refl _)
      | (with_reducible exact LeO.none _)
      | (with_reducible refine LeO.ite ?_ ?_)
      | (with_reducible refine LeO.bind ?_ (fun _ => ?_))
      | exact ih0 _ _ _ _
      | exact LeO.none _
      | refine LeO.ite ?_ ?_
      | refine LeO.bind ?_ (fun _ => ?_)
theorem spec_RestHas.mono : ∀ a0 a1 a2 k, LeO (spec_RestHas.f k a0 a1 a2) (spec_RestHas.f (k + 1) a0 a1 a2) := by
  intro a0 a1 a2 k
  have ih0 := spec_RestHas.mono_l k
  unfold spec_RestHas.f
  repeat' first
      | (with_reducible exact ih0 _ _ _ _)
      | (with_reducible exact LeO.refl _)
      | (with_reducible exact LeO.none _)
      | (with_reducible refine LeO.ite ?_ ?_)
      | (with_reducible refine LeO.bind ?_ (fun _ => ?_))
      | exact ih0 _ _ _ _
      | exact LeO.none _
      | refine LeO.ite ?_ ?_
      | refine LeO.bind ?_ (fun _ => ?_)
set_option maxHeartbeats 8000000 in
set_option maxRecDepth 100000 in
theorem spec_RestHas.calls (k : Nat) (a0_0 : Int) (a0_1 : Int) (a1 : Int) (r : Bool) (w : World) (h : spec_RestHas.f k a0_0 a0_1 a1 = some r) :
    Calls Try.prog 63 #[.agg #[.int .i64 a0_0, .int .i64 a0_1], .int .i64 a1] w fun e w' => e = .returned (.bool r) ∧ Below w.heap.size w w' := by
  have hu62 := Try.underlying62
  have HB := Aside0.mk (Below.refl w.heap.size w)
  have H : ((spec_RestOk.f a0_0 a0_1).bind fun t260 => (if t260 = true then ((spec_NumOk.f a1).bind fun t261 => (spec_RestHas.j0 k a1 (!t261) a0_0 a0_1)) else (spec_RestHas.j0 k a1 true a0_0 a0_1))) = some r := h
  clear h
  have HC3 := Aside0.mk H
  clear H
  go_enter Try.func63, Try.ntmps63
  go_upto_region 1 with (first | ((with_reducible refine gate_dst (N := 2) rfl ?_); refine sqx 2 #[.int .i64 a0_0, .int .i64 a0_1] 62 ?_; intro gb259 hg w4 hbox hb; have BK259 := Aside0.mk (hbox); have GW259 := sqg HB hg; have GE259 := sqg HB hg; replace HB := sqs HB hb; clear hb hbox hg))
  repeat (go_quiet (first | ((with_reducible refine gate_dst (N := 2) rfl ?_); refine sqx 2 #[.int .i64 a0_0, .int .i64 a0_1] 62 ?_; intro gb259 hg w4 hbox hb; have BK259 := Aside0.mk (hbox); have GW259 := sqg HB hg; have GE259 := sqg HB hg; replace HB := sqs HB hb; clear hb hbox hg)); go_upto_region 1 with (first | ((with_reducible refine gate_dst (N := 2) rfl ?_); refine sqx 2 #[.int .i64 a0_0, .int .i64 a0_1] 62 ?_; intro gb259 hg w4 hbox hb; have BK259 := Aside0.mk (hbox); have GW259 := sqg HB hg; have GE259 := sqg HB hg; replace HB := sqs HB hb; clear hb hbox hg)))
  (try simp only [Act.put, List.setIfInBounds_toArray, List.set_cons_zero, List.set_cons_succ])
  go_cut [12] (fun v12 wc => ∃ (kq : Nat) (x12_2 : Bool), v12 = .bool x12_2 ∧ Aside0 (spec_RestHas.j0 kq a1 x12_2 a0_0 a0_1 = some r) ∧ Aside0 (kq ≤ k) ∧ Aside0 (wc.heap[gb259]? = some (.cells #[.int .i64 a0_0, .int .i64 a0_1] 62 (0, 0))) ∧ Aside0 (Below w.heap.size w wc))
  case first =>
    have H := HC3.out
    clear HC3
    replace H := Option.bind_eq_some_iff.mp H
    obtain ⟨t260, A50, H⟩ := H
    replace H : (if t260 = true then ((spec_NumOk.f a1).bind fun t261 => (spec_RestHas.j0 k a1 (!t261) a0_0 a0_1)) else (spec_RestHas.j0 k a1 true a0_0 a0_1)) = some r := H
    have A5 := Aside0.mk A50
    clear A50
    by_cases c6 : t260 = true
    · subst c6
      have H1 : ((spec_NumOk.f a1).bind fun t261 => (spec_RestHas.j0 k a1 (!t261) a0_0 a0_1)) = some r := by rw [if_pos rfl] at H; exact H
      clear H
      have H := H1
      clear H1
      replace H := Option.bind_eq_some_iff.mp H
      obtain ⟨t261, A70, H⟩ := H
      replace H : (spec_RestHas.j0 k a1 (!t261) a0_0 a0_1) = some r := H
      have A7 := Aside0.mk A70
      clear A70
      have H' := Aside0.mk H
      clear H
      obtain ⟨hcz8_0, hcz8_1, hfz8_0, hfz8_1⟩ := sqc2 BK259
      go_wp2_with (first | (go_at_call 59; (with_reducible refine (spec_RestOk.calls a0_0 a0_1 true _ A5.out).mono ?_); rintro e w9 ⟨rfl, hb⟩; replace BK259 := sqb BK259 hb; replace HB := sqs HB hb; (try clear hb)) | (go_at_call 37; (with_reducible refine (spec_NumOk.calls a1 t261 _ A7.out).mono ?_); rintro e w' ⟨rfl, ⟨nd, rfl⟩⟩; (try first | exact ⟨rfl, _, World.drewN_drewN _ _ _⟩ | exact ⟨rfl, _, Eq.trans (World.drewN_drewN _ _ _) (congrArg (World.drewN _) (Nat.add_assoc _ _ _))⟩)))
      repeat (go_quiet (first | (go_at_call 59; (with_reducible refine (spec_RestOk.calls a0_0 a0_1 true _ A5.out).mono ?_); rintro e w9 ⟨rfl, hb⟩; replace BK259 := sqb BK259 hb; replace HB := sqs HB hb; (try clear hb)) | (go_at_call 37; (with_reducible refine (spec_NumOk.calls a1 t261 _ A7.out).mono ?_); rintro e w' ⟨rfl, ⟨nd, rfl⟩⟩; (try first | exact ⟨rfl, _, World.drewN_drewN _ _ _⟩ | exact ⟨rfl, _, Eq.trans (World.drewN_drewN _ _ _) (congrArg (World.drewN _) (Nat.add_assoc _ _ _))⟩))); try go_wp2_with (first | (go_at_call 59; (with_reducible refine (spec_RestOk.calls a0_0 a0_1 true _ A5.out).mono ?_); rintro e w9 ⟨rfl, hb⟩; replace BK259 := sqb BK259 hb; replace HB := sqs HB hb; (try clear hb)) | (go_at_call 37; (with_reducible refine (spec_NumOk.calls a1 t261 _ A7.out).mono ?_); rintro e w' ⟨rfl, ⟨nd, rfl⟩⟩; (try first | exact ⟨rfl, _, World.drewN_drewN _ _ _⟩ | exact ⟨rfl, _, Eq.trans (World.drewN_drewN _ _ _) (congrArg (World.drewN _) (Nat.add_assoc _ _ _))⟩))))
      go_meet
      case rel => exact ⟨_, (!t261), (by first | rfl | (simp; done) | (simp [*]; done)), H', ⟨by first | omega | exact Nat.le_refl _⟩, sqk BK259, sqh HB⟩
    · replace c6 := Bool.eq_false_iff.mpr c6
      subst c6
      have H1 : (spec_RestHas.j0 k a1 true a0_0 a0_1) = some r := by rw [if_neg (show ¬ (false = true) by decide)] at H; exact H
      clear H
      have H := H1
      clear H1
      have H' := Aside0.mk H
      clear H
      obtain ⟨hcz10_0, hcz10_1, hfz10_0, hfz10_1⟩ := sqc2 BK259
      go_wp2_with (first | (go_at_call 59; (with_reducible refine (spec_RestOk.calls a0_0 a0_1 false _ A5.out).mono ?_); rintro e w11 ⟨rfl, hb⟩; replace BK259 := sqb BK259 hb; replace HB := sqs HB hb; (try clear hb)))
      repeat (go_quiet (first | (go_at_call 59; (with_reducible refine (spec_RestOk.calls a0_0 a0_1 false _ A5.out).mono ?_); rintro e w11 ⟨rfl, hb⟩; replace BK259 := sqb BK259 hb; replace HB := sqs HB hb; (try clear hb))); try go_wp2_with (first | (go_at_call 59; (with_reducible refine (spec_RestOk.calls a0_0 a0_1 false _ A5.out).mono ?_); rintro e w11 ⟨rfl, hb⟩; replace BK259 := sqb BK259 hb; replace HB := sqs HB hb; (try clear hb))))
      go_meet
      case rel => exact ⟨_, (true), (by first | rfl | (simp; done) | (simp [*]; done)), H', ⟨by first | omega | exact Nat.le_refl _⟩, sqk BK259, sqh HB⟩
  case rest =>
    clear HC3
    obtain ⟨kq, x12_2, rfl, HA, HJ2, BK259, HB⟩ := hcut
    cases kq with
    | zero => exact absurd HA.out (by simp [spec_RestHas.j0])
    | succ kj2 =>
      have H := HA.out
      clear HA
      simp only [spec_RestHas.j0] at H
      by_cases c12 : x12_2 = true
      · subst c12
        have H1 : (some false) = some r := by rw [if_pos rfl] at H; exact H
        clear H
        have H := H1
        clear H1
        obtain rfl := Option.some.inj H
        go_wp2
        repeat (go_quiet (fail); try go_wp2)
        go_ret
        exact sqe HB
      · replace c12 := Bool.eq_false_iff.mpr c12
        subst c12
        have H1 : (if a0_0 = 0 then (some (a1 == a0_1)) else ((spec_l1Mod.f a1 a0_0).bind fun t262 => (some (t262 == a0_1)))) = some r := by rw [if_neg (show ¬ (false = true) by decide)] at H; exact H
        clear H
        have H := H1
        clear H1
        by_cases c13 : a0_0 = 0
        · rw [if_pos c13] at H
          have c13b0 : (a0_0 == 0) = true := beq_iff_eq.mpr c13
          have c13b1 : (a0_0 != 0) = false := bne_eq_false_iff_eq.mpr c13
          clear c13
          obtain rfl := Option.some.inj H
          obtain ⟨hcz14_0, hcz14_1, hfz14_0, hfz14_1⟩ := sqc2 BK259
          go_wp2
          repeat (go_quiet (fail); try go_wp2)
          go_ret
          exact sqe HB
        · rw [if_neg c13] at H
          have c13b0 : (a0_0 == 0) = false := beq_eq_false_iff_ne.mpr c13
          have c13b1 : (a0_0 != 0) = true := bne_iff_ne.mpr c13
          replace H := Option.bind_eq_some_iff.mp H
          obtain ⟨t262, A150, H⟩ := H
          replace H : (some (t262 == a0_1)) = some r := H
          have A15 := Aside0.mk A150
          clear A150
          obtain rfl := Option.some.inj H
          obtain ⟨hcz16_0, hcz16_1, hfz16_0, hfz16_1⟩ := sqc2 BK259
          go_wp2_with (first | (go_at_call 100; (with_reducible refine (spec_l1Mod.calls a1 a0_0 t262 _ A15.out).mono ?_); rintro e w' ⟨rfl, ⟨nd, rfl⟩⟩; (try first | exact ⟨rfl, _, World.drewN_drewN _ _ _⟩ | exact ⟨rfl, _, Eq.trans (World.drewN_drewN _ _ _) (congrArg (World.drewN _) (Nat.add_assoc _ _ _))⟩)))
          repeat (go_quiet (first | (go_at_call 100; (with_reducible refine (spec_l1Mod.calls a1 a0_0 t262 _ A15.out).mono ?_); rintro e w' ⟨rfl, ⟨nd, rfl⟩⟩; (try first | exact ⟨rfl, _, World.drewN_drewN _ _ _⟩ | exact ⟨rfl, _, Eq.trans (World.drewN_drewN _ _ _) (congrArg (World.drewN _) (Nat.add_assoc _ _ _))⟩))); try go_wp2_with (first | (go_at_call 100; (with_reducible refine (spec_l1Mod.calls a1 a0_0 t262 _ A15.out).mono ?_); rintro e w' ⟨rfl, ⟨nd, rfl⟩⟩; (try first | exact ⟨rfl, _, World.drewN_drewN _ _ _⟩ | exact ⟨rfl, _, Eq.trans (World.drewN_drewN _ _ _) (congrArg (World.drewN _) (Nat.add_assoc _ _ _))⟩))))
          go_ret
          exact sqe HB

/-! ### spec_RestMeet: function 57 -/
theorem spec_RestMeet.mono_l : ∀ k, (∀ y0 y1 y2 y3, LeO (spec_RestMeet.f k y0 y1 y2 y3) (spec_RestMeet.f (k + 1) y0 y1 y2 y3)) ∧ (∀ y0 y1 y2 y3 y4, LeO (spec_RestMeet.j0 k y0 y1 y2 y3 y4) (spec_RestMeet.j0 (k + 1) y0 y1 y2 y3 y4)) ∧ (∀ y0 y1 y2 y3 y4 y5, LeO (spec_RestMeet.l0 k y0 y1 y2 y3 y4 y5) (spec_RestMeet.l0 (k + 1) y0 y1 y2 y3 y4 y5))
  | 0 => ⟨fun _ _ _ _ r h => by simp [spec_RestMeet.f] at h, fun _ _ _ _ _ r h => by simp [spec_RestMeet.j0] at h, fun _ _ _ _ _ _ r h => by simp [spec_RestMeet.l0] at h⟩
  | k + 1 => by
    obtain ⟨ih0, ih1, ih2⟩ := spec_RestMeet.mono_l k
    refine ⟨?_, ?_, ?_⟩
    · intro y0 y1 y2 y3
      unfold spec_RestMeet.f
      repeat' first
      | (with_reducible exact ih0 _ _ _ _)
      | (with_reducible exact ih1 _ _ _ _ _)
      | (with_reducible exact ih2 _ _ _ _ _ _)
      | (with_reducible exact spec_RestHas.mono _ _ _ _)
      | (with_reducible exact spec_l9Gcd.mono _ _ _)
      | (with_reducible exact LeO.refl _)
      | (with_reducible exact LeO.none _)
      | (with_reducible refine LeO.ite ?_ ?_)
      | (with_reducible refine LeO.bind ?_ (fun _ => ?_))
      | exact ih0 _ _ _ _
      | exact ih1 _ _ _ _ _
      | exact ih2 _ _ _ _ _ _
      | exact spec_RestHas.mono _ _ _ _
      | exact spec_l9Gcd.mono _ _ _
      | exact LeO.none _
      | refine LeO.ite ?_ ?_
      | refine LeO.bind ?_ (fun _ => ?_)
    · intro y0 y1 y2 y3 y4
      unfold spec_RestMeet.j0
      repeat' first
      | (with_reducible exact ih0 _ _ _ _)
      | (with_reducible exact ih1 _ _ _ _ _)
      | (with_reducible exact ih2 _ _ _ _ _ _)
      | (with_reducible exact spec_RestHas.mono _ _ _ _)
      | (with_reducible exact spec_l9Gcd.mono _ _ _)
      | (with_reducible exact LeO.refl _)
      | (with_reducible exact LeO.none _)
      | (with_reducible refine LeO.ite ?_ ?_)
      | (with_reducible refine LeO.bind ?_ (fun _ => ?_))
      | exact ih0 _ _ _ _
      | exact ih1 _ _ _ _ _
      | exact ih2 _ _ _ _ _ _
      | exact spec_RestHas.mono _ _ _ _
      | exact spec_l9Gcd.mono _ _ _
      | exact LeO.none _
      | refine LeO.ite ?_ ?_
      | refine LeO.bind ?_ (fun _ => ?_)
    · intro y0 y1 y2 y3 y4 y5
      unfold spec_RestMeet.l0
      repeat' first
      | (with_reducible exact ih0 _ _ _ _)
      | (with_reducible exact ih1 _ _ _ _ _)
      | (with_reducible exact ih2 _ _ _ _ _ _)
      | (with_reducible exact spec_RestHas.mono _ _ _ _)
      | (with_reducible exact spec_l9Gcd.mono _ _ _)
      | (with_reducible exact LeO.refl _)
      | (with_reducible exact LeO.none _)
      | (with_reducible refine LeO.ite ?_ ?_)
      | (with_reducible refine LeO.bind ?_ (fun _ => ?_))
      | exact ih0 _ _ _ _
      | exact ih1 _ _ _ _ _
      | exact ih2 _ _ _ _ _ _
      | exact spec_RestHas.mono _ _ _ _
      | exact spec_l9Gcd.mono _ _ _
      | exact LeO.none _
      | refine LeO.ite ?_ ?_
      | refine LeO.bind ?_ (fun _ => ?_)
theorem spec_RestMeet.mono : ∀ a0 a1 a2 a3 k, LeO (spec_RestMeet.f k a0 a1 a2 a3) (spec_RestMeet.f (k + 1) a0 a1 a2 a3) := by
  intro a0 a1 a2 a3 k
  obtain ⟨ih0, ih1, ih2⟩ := spec_RestMeet.mono_l k
  exact ih0 a0 a1 a2 a3
set_option maxHeartbeats 8000000 in
set_option maxRecDepth 100000 in
theorem spec_RestMeet.calls (k : Nat) : ∀ (a0_0 : Int) (a0_1 : Int) (a1_0 : Int) (a1_1 : Int) (r1 : Int) (r2 : Int) (r3 : Bool) (w : World) (h : spec_RestMeet.f k a0_0 a0_1 a1_0 a1_1 = some (r1, r2, r3)),
    Calls Try.prog 57 #[.agg #[.int .i64 a0_0, .int .i64 a0_1], .agg #[.int .i64 a1_0, .int .i64 a1_1]] w fun e w' => e = .returned (.tuple #[.agg #[.int .i64 r1, .int .i64 r2], .bool r3]) ∧ Below w.heap.size w w' := by
  induction k using Nat.strongRecOn with
  | _ k ih =>
  intro a0_0 a0_1 a1_0 a1_1 r1 r2 r3 w h
  cases k with
  | zero => exact absurd h (by simp [spec_RestMeet.f])
  | succ k =>
  simp only [spec_RestMeet.f] at h
  have hu62 := Try.underlying62
  have HB := Aside0.mk (Below.refl w.heap.size w)
  have H : ((spec_RestOk.f a0_0 a0_1).bind fun t266 => (if t266 = true then ((spec_RestOk.f a1_0 a1_1).bind fun t267 => (spec_RestMeet.j0 k (!t267) a0_0 a0_1 a1_0 a1_1)) else (spec_RestMeet.j0 k true a0_0 a0_1 a1_0 a1_1))) = some (r1, r2, r3) := h
  clear h
  have HC3 := Aside0.mk H
  clear H
  go_enter Try.func57, Try.ntmps57
  go_upto_region 1 with (first | ((with_reducible refine gate_dst (N := 2) rfl ?_); refine sqx 2 #[.int .i64 a0_0, .int .i64 a0_1] 62 ?_; intro gb263 hg w4 hbox hb; have BK263 := Aside0.mk (hbox); have GW263 := sqg HB hg; have GE263 := sqg HB hg; replace HB := sqs HB hb; clear hb hbox hg) | ((with_reducible refine gate_dst (N := 3) rfl ?_); refine sqx 3 #[.int .i64 a1_0, .int .i64 a1_1] 62 ?_; intro gb264 hg w5 hbox hb; have BK264 := Aside0.mk (hbox); have GW264 := sqg HB hg; have GE264 := sqg HB hg; have NB263_264 := sqn BK263 hg; have NB264_263 := sqm BK263 hg; replace BK263 := sqb BK263 hb; replace HB := sqs HB hb; clear hb hbox hg) | ((with_reducible refine gate_dst (N := 4) rfl ?_); refine sqx 4 #[.int .i64 0, .int .i64 0] 62 ?_; intro gb265 hg w6 hbox hb; have BK265 := Aside0.mk (hbox); have GW265 := sqg HB hg; have GE265 := sqg HB hg; have NB263_265 := sqn BK263 hg; have NB265_263 := sqm BK263 hg; have NB264_265 := sqn BK264 hg; have NB265_264 := sqm BK264 hg; replace BK263 := sqb BK263 hb; replace BK264 := sqb BK264 hb; replace HB := sqs HB hb; clear hb hbox hg))
  repeat (go_quiet (first | ((with_reducible refine gate_dst (N := 2) rfl ?_); refine sqx 2 #[.int .i64 a0_0, .int .i64 a0_1] 62 ?_; intro gb263 hg w4 hbox hb; have BK263 := Aside0.mk (hbox); have GW263 := sqg HB hg; have GE263 := sqg HB hg; replace HB := sqs HB hb; clear hb hbox hg) | ((with_reducible refine gate_dst (N := 3) rfl ?_); refine sqx 3 #[.int .i64 a1_0, .int .i64 a1_1] 62 ?_; intro gb264 hg w5 hbox hb; have BK264 := Aside0.mk (hbox); have GW264 := sqg HB hg; have GE264 := sqg HB hg; have NB263_264 := sqn BK263 hg; have NB264_263 := sqm BK263 hg; replace BK263 := sqb BK263 hb; replace HB := sqs HB hb; clear hb hbox hg) | ((with_reducible refine gate_dst (N := 4) rfl ?_); refine sqx 4 #[.int .i64 0, .int .i64 0] 62 ?_; intro gb265 hg w6 hbox hb; have BK265 := Aside0.mk (hbox); have GW265 := sqg HB hg; have GE265 := sqg HB hg; have NB263_265 := sqn BK263 hg; have NB265_263 := sqm BK263 hg; have NB264_265 := sqn BK264 hg; have NB265_264 := sqm BK264 hg; replace BK263 := sqb BK263 hb; replace BK264 := sqb BK264 hb; replace HB := sqs HB hb; clear hb hbox hg)); go_upto_region 1 with (first | ((with_reducible refine gate_dst (N := 2) rfl ?_); refine sqx 2 #[.int .i64 a0_0, .int .i64 a0_1] 62 ?_; intro gb263 hg w4 hbox hb; have BK263 := Aside0.mk (hbox); have GW263 := sqg HB hg; have GE263 := sqg HB hg; replace HB := sqs HB hb; clear hb hbox hg) | ((with_reducible refine gate_dst (N := 3) rfl ?_); refine sqx 3 #[.int .i64 a1_0, .int .i64 a1_1] 62 ?_; intro gb264 hg w5 hbox hb; have BK264 := Aside0.mk (hbox); have GW264 := sqg HB hg; have GE264 := sqg HB hg; have NB263_264 := sqn BK263 hg; have NB264_263 := sqm BK263 hg; replace BK263 := sqb BK263 hb; replace HB := sqs HB hb; clear hb hbox hg) | ((with_reducible refine gate_dst (N := 4) rfl ?_); refine sqx 4 #[.int .i64 0, .int .i64 0] 62 ?_; intro gb265 hg w6 hbox hb; have BK265 := Aside0.mk (hbox); have GW265 := sqg HB hg; have GE265 := sqg HB hg; have NB263_265 := sqn BK263 hg; have NB265_263 := sqm BK263 hg; have NB264_265 := sqn BK264 hg; have NB265_264 := sqm BK264 hg; replace BK263 := sqb BK263 hb; replace BK264 := sqb BK264 hb; replace HB := sqs HB hb; clear hb hbox hg)))
  (try simp only [Act.put, List.setIfInBounds_toArray, List.set_cons_zero, List.set_cons_succ])
  go_cut [16] (fun v16 wc => ∃ (kq : Nat) (x16_2 : Bool), v16 = .bool x16_2 ∧ Aside0 (spec_RestMeet.j0 kq x16_2 a0_0 a0_1 a1_0 a1_1 = some (r1, r2, r3)) ∧ Aside0 (kq ≤ k) ∧ Aside0 (wc.heap[gb263]? = some (.cells #[.int .i64 a0_0, .int .i64 a0_1] 62 (0, 0))) ∧ Aside0 (wc.heap[gb264]? = some (.cells #[.int .i64 a1_0, .int .i64 a1_1] 62 (0, 0))) ∧ Aside0 (wc.heap[gb265]? = some (.cells #[.int .i64 0, .int .i64 0] 62 (0, 0))) ∧ Aside0 (Below w.heap.size w wc))
  case first =>
    have H := HC3.out
    clear HC3
    replace H := Option.bind_eq_some_iff.mp H
    obtain ⟨t266, A70, H⟩ := H
    replace H : (if t266 = true then ((spec_RestOk.f a1_0 a1_1).bind fun t267 => (spec_RestMeet.j0 k (!t267) a0_0 a0_1 a1_0 a1_1)) else (spec_RestMeet.j0 k true a0_0 a0_1 a1_0 a1_1)) = some (r1, r2, r3) := H
    have A7 := Aside0.mk A70
    clear A70
    by_cases c8 : t266 = true
    · subst c8
      have H1 : ((spec_RestOk.f a1_0 a1_1).bind fun t267 => (spec_RestMeet.j0 k (!t267) a0_0 a0_1 a1_0 a1_1)) = some (r1, r2, r3) := by rw [if_pos rfl] at H; exact H
      clear H
      have H := H1
      clear H1
      replace H := Option.bind_eq_some_iff.mp H
      obtain ⟨t267, A90, H⟩ := H
      replace H : (spec_RestMeet.j0 k (!t267) a0_0 a0_1 a1_0 a1_1) = some (r1, r2, r3) := H
      have A9 := Aside0.mk A90
      clear A90
      have H' := Aside0.mk H
      clear H
      have hnb10 := NB263_264.out
      have hnc10 := NB264_263.out
      have hnb11 := NB263_265.out
      have hnc11 := NB265_263.out
      obtain ⟨hcz12_0, hcz12_1, hfz12_0, hfz12_1⟩ := sqc2 BK263
      go_wp2_with (first | (go_at_call 59; (with_reducible refine (spec_RestOk.calls a0_0 a0_1 true _ A7.out).mono ?_); rintro e w13 ⟨rfl, hb⟩; replace BK263 := sqb BK263 hb; replace BK264 := sqb BK264 hb; replace BK265 := sqb BK265 hb; replace HB := sqs HB hb; (try clear hb); have hnb14 := NB264_265.out; have hnc14 := NB265_264.out; obtain ⟨hcz15_0, hcz15_1, hfz15_0, hfz15_1⟩ := sqc2 BK264) | (go_at_call 59; (with_reducible refine (spec_RestOk.calls a1_0 a1_1 t267 _ A9.out).mono ?_); rintro e w16 ⟨rfl, hb⟩; replace BK263 := sqb BK263 hb; replace BK264 := sqb BK264 hb; replace BK265 := sqb BK265 hb; replace HB := sqs HB hb; (try clear hb)))
      repeat (go_quiet (first | (go_at_call 59; (with_reducible refine (spec_RestOk.calls a0_0 a0_1 true _ A7.out).mono ?_); rintro e w13 ⟨rfl, hb⟩; replace BK263 := sqb BK263 hb; replace BK264 := sqb BK264 hb; replace BK265 := sqb BK265 hb; replace HB := sqs HB hb; (try clear hb); have hnb14 := NB264_265.out; have hnc14 := NB265_264.out; obtain ⟨hcz15_0, hcz15_1, hfz15_0, hfz15_1⟩ := sqc2 BK264) | (go_at_call 59; (with_reducible refine (spec_RestOk.calls a1_0 a1_1 t267 _ A9.out).mono ?_); rintro e w16 ⟨rfl, hb⟩; replace BK263 := sqb BK263 hb; replace BK264 := sqb BK264 hb; replace BK265 := sqb BK265 hb; replace HB := sqs HB hb; (try clear hb))); try go_wp2_with (first | (go_at_call 59; (with_reducible refine (spec_RestOk.calls a0_0 a0_1 true _ A7.out).mono ?_); rintro e w13 ⟨rfl, hb⟩; replace BK263 := sqb BK263 hb; replace BK264 := sqb BK264 hb; replace BK265 := sqb BK265 hb; replace HB := sqs HB hb; (try clear hb); have hnb14 := NB264_265.out; have hnc14 := NB265_264.out; obtain ⟨hcz15_0, hcz15_1, hfz15_0, hfz15_1⟩ := sqc2 BK264) | (go_at_call 59; (with_reducible refine (spec_RestOk.calls a1_0 a1_1 t267 _ A9.out).mono ?_); rintro e w16 ⟨rfl, hb⟩; replace BK263 := sqb BK263 hb; replace BK264 := sqb BK264 hb; replace BK265 := sqb BK265 hb; replace HB := sqs HB hb; (try clear hb))))
      go_meet
      case rel => exact ⟨_, (!t267), (by first | rfl | (simp; done) | (simp [*]; done)), H', ⟨by first | omega | exact Nat.le_refl _⟩, sqk BK263, sqk BK264, sqk BK265, sqh HB⟩
    · replace c8 := Bool.eq_false_iff.mpr c8
      subst c8
      have H1 : (spec_RestMeet.j0 k true a0_0 a0_1 a1_0 a1_1) = some (r1, r2, r3) := by rw [if_neg (show ¬ (false = true) by decide)] at H; exact H
      clear H
      have H := H1
      clear H1
      have H' := Aside0.mk H
      clear H
      have hnb17 := NB263_264.out
      have hnc17 := NB264_263.out
      have hnb18 := NB263_265.out
      have hnc18 := NB265_263.out
      obtain ⟨hcz19_0, hcz19_1, hfz19_0, hfz19_1⟩ := sqc2 BK263
      go_wp2_with (first | (go_at_call 59; (with_reducible refine (spec_RestOk.calls a0_0 a0_1 false _ A7.out).mono ?_); rintro e w20 ⟨rfl, hb⟩; replace BK263 := sqb BK263 hb; replace BK264 := sqb BK264 hb; replace BK265 := sqb BK265 hb; replace HB := sqs HB hb; (try clear hb)))
      repeat (go_quiet (first | (go_at_call 59; (with_reducible refine (spec_RestOk.calls a0_0 a0_1 false _ A7.out).mono ?_); rintro e w20 ⟨rfl, hb⟩; replace BK263 := sqb BK263 hb; replace BK264 := sqb BK264 hb; replace BK265 := sqb BK265 hb; replace HB := sqs HB hb; (try clear hb))); try go_wp2_with (first | (go_at_call 59; (with_reducible refine (spec_RestOk.calls a0_0 a0_1 false _ A7.out).mono ?_); rintro e w20 ⟨rfl, hb⟩; replace BK263 := sqb BK263 hb; replace BK264 := sqb BK264 hb; replace BK265 := sqb BK265 hb; replace HB := sqs HB hb; (try clear hb))))
      go_meet
      case rel => exact ⟨_, (true), (by first | rfl | (simp; done) | (simp [*]; done)), H', ⟨by first | omega | exact Nat.le_refl _⟩, sqk BK263, sqk BK264, sqk BK265, sqh HB⟩
  case rest =>
    clear HC3
    obtain ⟨kq, x16_2, rfl, HA, HJ2, BK263, BK264, BK265, HB⟩ := hcut
    cases kq with
    | zero => exact absurd HA.out (by simp [spec_RestMeet.j0])
    | succ kj2 =>
      have H := HA.out
      clear HA
      simp only [spec_RestMeet.j0] at H
      by_cases c21 : x16_2 = true
      · subst c21
        have H1 : (some (0, 0, false)) = some (r1, r2, r3) := by rw [if_pos rfl] at H; exact H
        clear H
        have H := H1
        clear H1
        simp only [Option.some.injEq, Prod.mk.injEq] at H
        obtain ⟨rfl, rfl, rfl⟩ := H
        have hnb22 := NB265_263.out
        have hnc22 := NB263_265.out
        have hnb23 := NB265_264.out
        have hnc23 := NB264_265.out
        obtain ⟨hcz24_0, hcz24_1, hfz24_0, hfz24_1⟩ := sqc2 BK265
        go_wp2
        repeat (go_quiet (fail); try go_wp2)
        refine bodyPost_ret (results_ct rfl _ _ gb265 62 #[.int .i64 0, .int .i64 0] (0, 0) _ rfl (by refine sqt ?_; refine blk_put (cs := #[.int .i64 0, .int .i64 0]) ?_ 1 _ rfl; refine sqt ?_; refine blk_put (cs := #[.int .i64 0, .int .i64 0]) ?_ 0 _ rfl; refine sqt ?_; exact BK265.out) Try.underlying62 rfl (by kernel_rfl)) rfl ?_
        exact sqe HB
      · replace c21 := Bool.eq_false_iff.mpr c21
        subst c21
        have H1 : (if a0_0 = 0 then ((spec_RestHas.f kj2 a1_0 a1_1 a0_1).bind fun t268 => (if t268 = true then (some (a0_0, a0_1, true)) else (some (0, 0, false)))) else (if a1_0 = 0 then ((spec_RestMeet.f kj2 a1_0 a1_1 a0_0 a0_1).bind fun bt269 => (some (bt269.1, bt269.2.1, bt269.2.2))) else ((spec_l9Gcd.f kj2 a0_0 a1_0).bind fun t272 => ((spec_l1Mod.f (wrap64 (a0_1 - a1_1)) t272).bind fun t273 => (if t273 = 0 then (if t272 = 0 then (none) else (if (wrap64 ((wrap64 (Int.tdiv a0_0 t272)) * a1_0)) > 65536 then (if a1_0 > a0_0 then (some (a1_0, a1_1, true)) else (some (a0_0, a0_1, true))) else (spec_RestMeet.l0 kj2 (wrap64 ((wrap64 (Int.tdiv a0_0 t272)) * a1_0)) a0_1 a0_0 a0_1 a1_0 a1_1))) else (some (0, 0, false))))))) = some (r1, r2, r3) := by rw [if_neg (show ¬ (false = true) by decide)] at H; exact H
        clear H
        have H := H1
        clear H1
        by_cases c25 : a0_0 = 0
        · rw [if_pos c25] at H
          have c25b0 : (a0_0 == 0) = true := beq_iff_eq.mpr c25
          have c25b1 : (a0_0 != 0) = false := bne_eq_false_iff_eq.mpr c25
          clear c25
          replace H := Option.bind_eq_some_iff.mp H
          obtain ⟨t268, A260, H⟩ := H
          replace H : (if t268 = true then (some (a0_0, a0_1, true)) else (some (0, 0, false))) = some (r1, r2, r3) := H
          have A26 := Aside0.mk A260
          clear A260
          by_cases c27 : t268 = true
          · subst c27
            have H1 : (some (a0_0, a0_1, true)) = some (r1, r2, r3) := by rw [if_pos rfl] at H; exact H
            clear H
            have H := H1
            clear H1
            simp only [Option.some.injEq, Prod.mk.injEq] at H
            obtain ⟨rfl, rfl, rfl⟩ := H
            have hnb28 := NB263_264.out
            have hnc28 := NB264_263.out
            have hnb29 := NB263_265.out
            have hnc29 := NB265_263.out
            obtain ⟨hcz30_0, hcz30_1, hfz30_0, hfz30_1⟩ := sqc2 BK263
            have hnb31 := NB264_265.out
            have hnc31 := NB265_264.out
            obtain ⟨hcz32_0, hcz32_1, hfz32_0, hfz32_1⟩ := sqc2 BK264
            go_wp2_with (first | (go_at_call 63; (with_reducible refine (spec_RestHas.calls kj2 a1_0 a1_1 a0_1 true _ A26.out).mono ?_); rintro e w33 ⟨rfl, hb⟩; replace BK263 := sqb BK263 hb; replace BK264 := sqb BK264 hb; replace BK265 := sqb BK265 hb; replace HB := sqs HB hb; (try clear hb); obtain ⟨hcz34_0, hcz34_1, hfz34_0, hfz34_1⟩ := sqc2 BK263; obtain ⟨hcz35_0, hcz35_1, hfz35_0, hfz35_1⟩ := sqc2 BK265))
            repeat (go_quiet (first | (go_at_call 63; (with_reducible refine (spec_RestHas.calls kj2 a1_0 a1_1 a0_1 true _ A26.out).mono ?_); rintro e w33 ⟨rfl, hb⟩; replace BK263 := sqb BK263 hb; replace BK264 := sqb BK264 hb; replace BK265 := sqb BK265 hb; replace HB := sqs HB hb; (try clear hb); obtain ⟨hcz34_0, hcz34_1, hfz34_0, hfz34_1⟩ := sqc2 BK263; obtain ⟨hcz35_0, hcz35_1, hfz35_0, hfz35_1⟩ := sqc2 BK265)); try go_wp2_with (first | (go_at_call 63; (with_reducible refine (spec_RestHas.calls kj2 a1_0 a1_1 a0_1 true _ A26.out).mono ?_); rintro e w33 ⟨rfl, hb⟩; replace BK263 := sqb BK263 hb; replace BK264 := sqb BK264 hb; replace BK265 := sqb BK265 hb; replace HB := sqs HB hb; (try clear hb); obtain ⟨hcz34_0, hcz34_1, hfz34_0, hfz34_1⟩ := sqc2 BK263; obtain ⟨hcz35_0, hcz35_1, hfz35_0, hfz35_1⟩ := sqc2 BK265)))
            refine bodyPost_ret (results_ct rfl _ _ gb265 62 #[.int .i64 a0_0, .int .i64 a0_1] (0, 0) _ rfl (by refine sqt ?_; refine blk_put (cs := #[.int .i64 a0_0, .int .i64 0]) ?_ 1 _ rfl; refine sqt ?_; refine blk_put (cs := #[.int .i64 0, .int .i64 0]) ?_ 0 _ rfl; refine sqt ?_; exact BK265.out) Try.underlying62 rfl (by kernel_rfl)) rfl ?_
            exact sqe HB
          · replace c27 := Bool.eq_false_iff.mpr c27
            subst c27
            have H1 : (some (0, 0, false)) = some (r1, r2, r3) := by rw [if_neg (show ¬ (false = true) by decide)] at H; exact H
            clear H
            have H := H1
            clear H1
            simp only [Option.some.injEq, Prod.mk.injEq] at H
            obtain ⟨rfl, rfl, rfl⟩ := H
            have hnb36 := NB263_264.out
            have hnc36 := NB264_263.out
            have hnb37 := NB263_265.out
            have hnc37 := NB265_263.out
            obtain ⟨hcz38_0, hcz38_1, hfz38_0, hfz38_1⟩ := sqc2 BK263
            have hnb39 := NB264_265.out
            have hnc39 := NB265_264.out
            obtain ⟨hcz40_0, hcz40_1, hfz40_0, hfz40_1⟩ := sqc2 BK264
            go_wp2_with (first | (go_at_call 63; (with_reducible refine (spec_RestHas.calls kj2 a1_0 a1_1 a0_1 false _ A26.out).mono ?_); rintro e w41 ⟨rfl, hb⟩; replace BK263 := sqb BK263 hb; replace BK264 := sqb BK264 hb; replace BK265 := sqb BK265 hb; replace HB := sqs HB hb; (try clear hb); obtain ⟨hcz42_0, hcz42_1, hfz42_0, hfz42_1⟩ := sqc2 BK265))
            repeat (go_quiet (first | (go_at_call 63; (with_reducible refine (spec_RestHas.calls kj2 a1_0 a1_1 a0_1 false _ A26.out).mono ?_); rintro e w41 ⟨rfl, hb⟩; replace BK263 := sqb BK263 hb; replace BK264 := sqb BK264 hb; replace BK265 := sqb BK265 hb; replace HB := sqs HB hb; (try clear hb); obtain ⟨hcz42_0, hcz42_1, hfz42_0, hfz42_1⟩ := sqc2 BK265)); try go_wp2_with (first | (go_at_call 63; (with_reducible refine (spec_RestHas.calls kj2 a1_0 a1_1 a0_1 false _ A26.out).mono ?_); rintro e w41 ⟨rfl, hb⟩; replace BK263 := sqb BK263 hb; replace BK264 := sqb BK264 hb; replace BK265 := sqb BK265 hb; replace HB := sqs HB hb; (try clear hb); obtain ⟨hcz42_0, hcz42_1, hfz42_0, hfz42_1⟩ := sqc2 BK265)))
            refine bodyPost_ret (results_ct rfl _ _ gb265 62 #[.int .i64 0, .int .i64 0] (0, 0) _ rfl (by refine sqt ?_; refine blk_put (cs := #[.int .i64 0, .int .i64 0]) ?_ 1 _ rfl; refine sqt ?_; refine blk_put (cs := #[.int .i64 0, .int .i64 0]) ?_ 0 _ rfl; refine sqt ?_; exact BK265.out) Try.underlying62 rfl (by kernel_rfl)) rfl ?_
            exact sqe HB
        · rw [if_neg c25] at H
          have c25b0 : (a0_0 == 0) = false := beq_eq_false_iff_ne.mpr c25
          have c25b1 : (a0_0 != 0) = true := bne_iff_ne.mpr c25
          by_cases c43 : a1_0 = 0
          · rw [if_pos c43] at H
            have c43b0 : (a1_0 == 0) = true := beq_iff_eq.mpr c43
            have c43b1 : (a1_0 != 0) = false := bne_eq_false_iff_eq.mpr c43
            clear c43
            replace H := Option.bind_eq_some_iff.mp H
            obtain ⟨⟨t269, t270, t271⟩, A440, H⟩ := H
            replace H : (some (t269, t270, t271)) = some (r1, r2, r3) := H
            have A44 := Aside0.mk A440
            clear A440
            simp only [Option.some.injEq, Prod.mk.injEq] at H
            obtain ⟨rfl, rfl, rfl⟩ := H
            have hnb45 := NB263_264.out
            have hnc45 := NB264_263.out
            have hnb46 := NB263_265.out
            have hnc46 := NB265_263.out
            obtain ⟨hcz47_0, hcz47_1, hfz47_0, hfz47_1⟩ := sqc2 BK263
            have hnb48 := NB264_265.out
            have hnc48 := NB265_264.out
            obtain ⟨hcz49_0, hcz49_1, hfz49_0, hfz49_1⟩ := sqc2 BK264
            go_wp2_with (first | (go_at_call 57; (with_reducible refine (ih kj2 (by have := HJ2.out; omega) a1_0 a1_1 a0_0 a0_1 t269 t270 t271 _ A44.out).mono ?_); rintro e w50 ⟨rfl, hb⟩; replace BK263 := sqb BK263 hb; replace BK264 := sqb BK264 hb; replace BK265 := sqb BK265 hb; replace HB := sqs HB hb; (try clear hb); obtain ⟨hcz51_0, hcz51_1, hfz51_0, hfz51_1⟩ := sqc2 BK265))
            repeat (go_quiet (first | (go_at_call 57; (with_reducible refine (ih kj2 (by have := HJ2.out; omega) a1_0 a1_1 a0_0 a0_1 t269 t270 t271 _ A44.out).mono ?_); rintro e w50 ⟨rfl, hb⟩; replace BK263 := sqb BK263 hb; replace BK264 := sqb BK264 hb; replace BK265 := sqb BK265 hb; replace HB := sqs HB hb; (try clear hb); obtain ⟨hcz51_0, hcz51_1, hfz51_0, hfz51_1⟩ := sqc2 BK265)); try go_wp2_with (first | (go_at_call 57; (with_reducible refine (ih kj2 (by have := HJ2.out; omega) a1_0 a1_1 a0_0 a0_1 t269 t270 t271 _ A44.out).mono ?_); rintro e w50 ⟨rfl, hb⟩; replace BK263 := sqb BK263 hb; replace BK264 := sqb BK264 hb; replace BK265 := sqb BK265 hb; replace HB := sqs HB hb; (try clear hb); obtain ⟨hcz51_0, hcz51_1, hfz51_0, hfz51_1⟩ := sqc2 BK265)))
            refine bodyPost_ret (results_ct rfl _ _ gb265 62 #[.int .i64 t269, .int .i64 t270] (0, 0) _ rfl (by refine sqt ?_; refine blk_put (cs := #[.int .i64 t269, .int .i64 0]) ?_ 1 _ rfl; refine sqt ?_; refine blk_put (cs := #[.int .i64 0, .int .i64 0]) ?_ 0 _ rfl; refine sqt ?_; exact BK265.out) Try.underlying62 rfl (by kernel_rfl)) rfl ?_
            exact sqe HB
          · rw [if_neg c43] at H
            have c43b0 : (a1_0 == 0) = false := beq_eq_false_iff_ne.mpr c43
            have c43b1 : (a1_0 != 0) = true := bne_iff_ne.mpr c43
            replace H := Option.bind_eq_some_iff.mp H
            obtain ⟨t272, A520, H⟩ := H
            replace H : ((spec_l1Mod.f (wrap64 (a0_1 - a1_1)) t272).bind fun t273 => (if t273 = 0 then (if t272 = 0 then (none) else (if (wrap64 ((wrap64 (Int.tdiv a0_0 t272)) * a1_0)) > 65536 then (if a1_0 > a0_0 then (some (a1_0, a1_1, true)) else (some (a0_0, a0_1, true))) else (spec_RestMeet.l0 kj2 (wrap64 ((wrap64 (Int.tdiv a0_0 t272)) * a1_0)) a0_1 a0_0 a0_1 a1_0 a1_1))) else (some (0, 0, false)))) = some (r1, r2, r3) := H
            have A52 := Aside0.mk A520
            clear A520
            replace H := Option.bind_eq_some_iff.mp H
            obtain ⟨t273, A530, H⟩ := H
            replace H : (if t273 = 0 then (if t272 = 0 then (none) else (if (wrap64 ((wrap64 (Int.tdiv a0_0 t272)) * a1_0)) > 65536 then (if a1_0 > a0_0 then (some (a1_0, a1_1, true)) else (some (a0_0, a0_1, true))) else (spec_RestMeet.l0 kj2 (wrap64 ((wrap64 (Int.tdiv a0_0 t272)) * a1_0)) a0_1 a0_0 a0_1 a1_0 a1_1))) else (some (0, 0, false))) = some (r1, r2, r3) := H
            have A53 := Aside0.mk A530
            clear A530
            by_cases c54 : t273 = 0
            · rw [if_pos c54] at H
              have c54b0 : (t273 == 0) = true := beq_iff_eq.mpr c54
              have c54b1 : (t273 != 0) = false := bne_eq_false_iff_eq.mpr c54
              clear c54
              by_cases c55 : t272 = 0
              · rw [if_pos c55] at H
                exact absurd H (by simp)
              · rw [if_neg c55] at H
                have c55b0 : (t272 == 0) = false := beq_eq_false_iff_ne.mpr c55
                have c55b1 : (t272 != 0) = true := bne_iff_ne.mpr c55
                by_cases c56 : (wrap64 ((wrap64 (Int.tdiv a0_0 t272)) * a1_0)) > 65536
                · rw [if_pos c56] at H
                  have c56b0 : decide (65536 < (wrap64 ((wrap64 (Int.tdiv a0_0 t272)) * a1_0))) = true := decide_eq_true c56
                  clear c56
                  by_cases c57 : a1_0 > a0_0
                  · rw [if_pos c57] at H
                    have c57b0 : decide (a0_0 < a1_0) = true := decide_eq_true c57
                    clear c57
                    simp only [Option.some.injEq, Prod.mk.injEq] at H
                    obtain ⟨rfl, rfl, rfl⟩ := H
                    have hnb58 := NB263_264.out
                    have hnc58 := NB264_263.out
                    have hnb59 := NB263_265.out
                    have hnc59 := NB265_263.out
                    obtain ⟨hcz60_0, hcz60_1, hfz60_0, hfz60_1⟩ := sqc2 BK263
                    have hnb61 := NB264_265.out
                    have hnc61 := NB265_264.out
                    obtain ⟨hcz62_0, hcz62_1, hfz62_0, hfz62_1⟩ := sqc2 BK264
                    go_wp2_with (first | (go_at_call 109; (with_reducible refine (spec_l9Gcd.calls kj2 a0_0 a1_0 t272 _ A52.out).mono ?_); rintro e w' ⟨rfl, ⟨nd, rfl⟩⟩; (try first | exact ⟨rfl, _, World.drewN_drewN _ _ _⟩ | exact ⟨rfl, _, Eq.trans (World.drewN_drewN _ _ _) (congrArg (World.drewN _) (Nat.add_assoc _ _ _))⟩)) | (go_at_call 100; (with_reducible refine (spec_l1Mod.calls (wrap64 (a0_1 - a1_1)) t272 t273 _ A53.out).mono ?_); rintro e w' ⟨rfl, ⟨nd, rfl⟩⟩; (try first | exact ⟨rfl, _, World.drewN_drewN _ _ _⟩ | exact ⟨rfl, _, Eq.trans (World.drewN_drewN _ _ _) (congrArg (World.drewN _) (Nat.add_assoc _ _ _))⟩); obtain ⟨hcz63_0, hcz63_1, hfz63_0, hfz63_1⟩ := sqc2 BK265))
                    repeat (go_quiet (first | (go_at_call 109; (with_reducible refine (spec_l9Gcd.calls kj2 a0_0 a1_0 t272 _ A52.out).mono ?_); rintro e w' ⟨rfl, ⟨nd, rfl⟩⟩; (try first | exact ⟨rfl, _, World.drewN_drewN _ _ _⟩ | exact ⟨rfl, _, Eq.trans (World.drewN_drewN _ _ _) (congrArg (World.drewN _) (Nat.add_assoc _ _ _))⟩)) | (go_at_call 100; (with_reducible refine (spec_l1Mod.calls (wrap64 (a0_1 - a1_1)) t272 t273 _ A53.out).mono ?_); rintro e w' ⟨rfl, ⟨nd, rfl⟩⟩; (try first | exact ⟨rfl, _, World.drewN_drewN _ _ _⟩ | exact ⟨rfl, _, Eq.trans (World.drewN_drewN _ _ _) (congrArg (World.drewN _) (Nat.add_assoc _ _ _))⟩); obtain ⟨hcz63_0, hcz63_1, hfz63_0, hfz63_1⟩ := sqc2 BK265)); try go_wp2_with (first | (go_at_call 109; (with_reducible refine (spec_l9Gcd.calls kj2 a0_0 a1_0 t272 _ A52.out).mono ?_); rintro e w' ⟨rfl, ⟨nd, rfl⟩⟩; (try first | exact ⟨rfl, _, World.drewN_drewN _ _ _⟩ | exact ⟨rfl, _, Eq.trans (World.drewN_drewN _ _ _) (congrArg (World.drewN _) (Nat.add_assoc _ _ _))⟩)) | (go_at_call 100; (with_reducible refine (spec_l1Mod.calls (wrap64 (a0_1 - a1_1)) t272 t273 _ A53.out).mono ?_); rintro e w' ⟨rfl, ⟨nd, rfl⟩⟩; (try first | exact ⟨rfl, _, World.drewN_drewN _ _ _⟩ | exact ⟨rfl, _, Eq.trans (World.drewN_drewN _ _ _) (congrArg (World.drewN _) (Nat.add_assoc _ _ _))⟩); obtain ⟨hcz63_0, hcz63_1, hfz63_0, hfz63_1⟩ := sqc2 BK265)))
                    refine bodyPost_ret (results_ct rfl _ _ gb265 62 #[.int .i64 a1_0, .int .i64 a1_1] (0, 0) _ rfl (by refine sqt ?_; refine blk_put (cs := #[.int .i64 a1_0, .int .i64 0]) ?_ 1 _ rfl; refine sqt ?_; refine blk_put (cs := #[.int .i64 0, .int .i64 0]) ?_ 0 _ rfl; refine sqt ?_; exact BK265.out) Try.underlying62 rfl (by kernel_rfl)) rfl ?_
                    exact sqe HB
                  · rw [if_neg c57] at H
                    have c57b0 : decide (a0_0 < a1_0) = false := decide_eq_false c57
                    clear c57
                    simp only [Option.some.injEq, Prod.mk.injEq] at H
                    obtain ⟨rfl, rfl, rfl⟩ := H
                    have hnb64 := NB263_264.out
                    have hnc64 := NB264_263.out
                    have hnb65 := NB263_265.out
                    have hnc65 := NB265_263.out
                    obtain ⟨hcz66_0, hcz66_1, hfz66_0, hfz66_1⟩ := sqc2 BK263
                    have hnb67 := NB264_265.out
                    have hnc67 := NB265_264.out
                    obtain ⟨hcz68_0, hcz68_1, hfz68_0, hfz68_1⟩ := sqc2 BK264
                    go_wp2_with (first | (go_at_call 109; (with_reducible refine (spec_l9Gcd.calls kj2 a0_0 a1_0 t272 _ A52.out).mono ?_); rintro e w' ⟨rfl, ⟨nd, rfl⟩⟩; (try first | exact ⟨rfl, _, World.drewN_drewN _ _ _⟩ | exact ⟨rfl, _, Eq.trans (World.drewN_drewN _ _ _) (congrArg (World.drewN _) (Nat.add_assoc _ _ _))⟩)) | (go_at_call 100; (with_reducible refine (spec_l1Mod.calls (wrap64 (a0_1 - a1_1)) t272 t273 _ A53.out).mono ?_); rintro e w' ⟨rfl, ⟨nd, rfl⟩⟩; (try first | exact ⟨rfl, _, World.drewN_drewN _ _ _⟩ | exact ⟨rfl, _, Eq.trans (World.drewN_drewN _ _ _) (congrArg (World.drewN _) (Nat.add_assoc _ _ _))⟩); obtain ⟨hcz69_0, hcz69_1, hfz69_0, hfz69_1⟩ := sqc2 BK265))
                    repeat (go_quiet (first | (go_at_call 109; (with_reducible refine (spec_l9Gcd.calls kj2 a0_0 a1_0 t272 _ A52.out).mono ?_); rintro e w' ⟨rfl, ⟨nd, rfl⟩⟩; (try first | exact ⟨rfl, _, World.drewN_drewN _ _ _⟩ | exact ⟨rfl, _, Eq.trans (World.drewN_drewN _ _ _) (congrArg (World.drewN _) (Nat.add_assoc _ _ _))⟩)) | (go_at_call 100; (with_reducible refine (spec_l1Mod.calls (wrap64 (a0_1 - a1_1)) t272 t273 _ A53.out).mono ?_); rintro e w' ⟨rfl, ⟨nd, rfl⟩⟩; (try first | exact ⟨rfl, _, World.drewN_drewN _ _ _⟩ | exact ⟨rfl, _, Eq.trans (World.drewN_drewN _ _ _) (congrArg (World.drewN _) (Nat.add_assoc _ _ _))⟩); obtain ⟨hcz69_0, hcz69_1, hfz69_0, hfz69_1⟩ := sqc2 BK265)); try go_wp2_with (first | (go_at_call 109; (with_reducible refine (spec_l9Gcd.calls kj2 a0_0 a1_0 t272 _ A52.out).mono ?_); rintro e w' ⟨rfl, ⟨nd, rfl⟩⟩; (try first | exact ⟨rfl, _, World.drewN_drewN _ _ _⟩ | exact ⟨rfl, _, Eq.trans (World.drewN_drewN _ _ _) (congrArg (World.drewN _) (Nat.add_assoc _ _ _))⟩)) | (go_at_call 100; (with_reducible refine (spec_l1Mod.calls (wrap64 (a0_1 - a1_1)) t272 t273 _ A53.out).mono ?_); rintro e w' ⟨rfl, ⟨nd, rfl⟩⟩; (try first | exact ⟨rfl, _, World.drewN_drewN _ _ _⟩ | exact ⟨rfl, _, Eq.trans (World.drewN_drewN _ _ _) (congrArg (World.drewN _) (Nat.add_assoc _ _ _))⟩); obtain ⟨hcz69_0, hcz69_1, hfz69_0, hfz69_1⟩ := sqc2 BK265)))
                    refine bodyPost_ret (results_ct rfl _ _ gb265 62 #[.int .i64 a0_0, .int .i64 a0_1] (0, 0) _ rfl (by refine sqt ?_; refine blk_put (cs := #[.int .i64 a0_0, .int .i64 0]) ?_ 1 _ rfl; refine sqt ?_; refine blk_put (cs := #[.int .i64 0, .int .i64 0]) ?_ 0 _ rfl; refine sqt ?_; exact BK265.out) Try.underlying62 rfl (by kernel_rfl)) rfl ?_
                    exact sqe HB
                · rw [if_neg c56] at H
                  have c56b0 : decide (65536 < (wrap64 ((wrap64 (Int.tdiv a0_0 t272)) * a1_0))) = false := decide_eq_false c56
                  clear c56
                  have H' := Aside0.mk H
                  clear H
                  have hnb70 := NB263_264.out
                  have hnc70 := NB264_263.out
                  have hnb71 := NB263_265.out
                  have hnc71 := NB265_263.out
                  obtain ⟨hcz72_0, hcz72_1, hfz72_0, hfz72_1⟩ := sqc2 BK263
                  have hnb73 := NB264_265.out
                  have hnc73 := NB265_264.out
                  obtain ⟨hcz74_0, hcz74_1, hfz74_0, hfz74_1⟩ := sqc2 BK264
                  go_wp2_with (first | (go_at_call 109; (with_reducible refine (spec_l9Gcd.calls kj2 a0_0 a1_0 t272 _ A52.out).mono ?_); rintro e w' ⟨rfl, ⟨nd, rfl⟩⟩; (try first | exact ⟨rfl, _, World.drewN_drewN _ _ _⟩ | exact ⟨rfl, _, Eq.trans (World.drewN_drewN _ _ _) (congrArg (World.drewN _) (Nat.add_assoc _ _ _))⟩)) | (go_at_call 100; (with_reducible refine (spec_l1Mod.calls (wrap64 (a0_1 - a1_1)) t272 t273 _ A53.out).mono ?_); rintro e w' ⟨rfl, ⟨nd, rfl⟩⟩; (try first | exact ⟨rfl, _, World.drewN_drewN _ _ _⟩ | exact ⟨rfl, _, Eq.trans (World.drewN_drewN _ _ _) (congrArg (World.drewN _) (Nat.add_assoc _ _ _))⟩)))
                  repeat (go_quiet (first | (go_at_call 109; (with_reducible refine (spec_l9Gcd.calls kj2 a0_0 a1_0 t272 _ A52.out).mono ?_); rintro e w' ⟨rfl, ⟨nd, rfl⟩⟩; (try first | exact ⟨rfl, _, World.drewN_drewN _ _ _⟩ | exact ⟨rfl, _, Eq.trans (World.drewN_drewN _ _ _) (congrArg (World.drewN _) (Nat.add_assoc _ _ _))⟩)) | (go_at_call 100; (with_reducible refine (spec_l1Mod.calls (wrap64 (a0_1 - a1_1)) t272 t273 _ A53.out).mono ?_); rintro e w' ⟨rfl, ⟨nd, rfl⟩⟩; (try first | exact ⟨rfl, _, World.drewN_drewN _ _ _⟩ | exact ⟨rfl, _, Eq.trans (World.drewN_drewN _ _ _) (congrArg (World.drewN _) (Nat.add_assoc _ _ _))⟩))); try go_wp2_with (first | (go_at_call 109; (with_reducible refine (spec_l9Gcd.calls kj2 a0_0 a1_0 t272 _ A52.out).mono ?_); rintro e w' ⟨rfl, ⟨nd, rfl⟩⟩; (try first | exact ⟨rfl, _, World.drewN_drewN _ _ _⟩ | exact ⟨rfl, _, Eq.trans (World.drewN_drewN _ _ _) (congrArg (World.drewN _) (Nat.add_assoc _ _ _))⟩)) | (go_at_call 100; (with_reducible refine (spec_l1Mod.calls (wrap64 (a0_1 - a1_1)) t272 t273 _ A53.out).mono ?_); rintro e w' ⟨rfl, ⟨nd, rfl⟩⟩; (try first | exact ⟨rfl, _, World.drewN_drewN _ _ _⟩ | exact ⟨rfl, _, Eq.trans (World.drewN_drewN _ _ _) (congrArg (World.drewN _) (Nat.add_assoc _ _ _))⟩))))
                  go_loopg [8] kj2 (fun kq v8 w' => ∃ (x8_2 : Int), v8 = .int .i64 x8_2 ∧ Aside0 (spec_RestMeet.l0 kq (wrap64 ((wrap64 (Int.tdiv a0_0 t272)) * a1_0)) x8_2 a0_0 a0_1 a1_0 a1_1 = some (r1, r2, r3)) ∧ Aside0 (kq ≤ kj2) ∧ Aside0 (w'.heap[gb263]? = some (.cells #[.int .i64 a0_0, .int .i64 a0_1] 62 (0, 0))) ∧ Aside0 (w'.heap[gb264]? = some (.cells #[.int .i64 a1_0, .int .i64 a1_1] 62 (0, 0))) ∧ Aside0 (w'.heap[gb265]? = some (.cells #[.int .i64 0, .int .i64 0] 62 (0, 0))) ∧ Aside0 (Below w.heap.size w w'))
                  case atStart => exact ⟨(a0_1), (by first | rfl | (simp; done) | (simp [*]; done)), H', ⟨Nat.le_refl _⟩, sqk BK263, sqk BK264, sqk BK265, sqh HB⟩
                  case round =>
                    clear H'
                    try clear c1
                    try clear c2
                    try clear p2
                    try clear c3
                    try clear c4
                    try clear c5
                    try clear c6
                    try clear p6
                    try clear c7
                    try clear c8
                    try clear c10
                    try clear c11
                    try clear c14
                    try clear c17
                    try clear c18
                    try clear c21
                    try clear c22
                    try clear c23
                    try clear c25
                    try clear c25b0
                    try clear c25b1
                    try clear c27
                    try clear c28
                    try clear c29
                    try clear c31
                    try clear c36
                    try clear c37
                    try clear c39
                    try clear c43
                    try clear c43b0
                    try clear c43b1
                    try clear c45
                    try clear c46
                    try clear c48
                    try clear c54
                    try clear c54b0
                    try clear c54b1
                    try clear c55
                    try clear c55b0
                    try clear c55b1
                    try clear c56
                    try clear c56b0
                    try clear c57
                    try clear c57b0
                    try clear c58
                    try clear c59
                    try clear c61
                    try clear c64
                    try clear p64
                    try clear c65
                    try clear c67
                    try clear c70
                    try clear c71
                    try clear c73
                    try clear hcz12_0
                    try clear hcz12_1
                    try clear hcz15_0
                    try clear hcz15_1
                    try clear hcz19_0
                    try clear hcz19_1
                    try clear hcz24_0
                    try clear hcz24_1
                    try clear hcz30_0
                    try clear hcz30_1
                    try clear hcz32_0
                    try clear hcz32_1
                    try clear hcz34_0
                    try clear hcz34_1
                    try clear hcz35_0
                    try clear hcz35_1
                    try clear hcz38_0
                    try clear hcz38_1
                    try clear hcz40_0
                    try clear hcz40_1
                    try clear hcz42_0
                    try clear hcz42_1
                    try clear hcz47_0
                    try clear hcz47_1
                    try clear hcz49_0
                    try clear hcz49_1
                    try clear hcz51_0
                    try clear hcz51_1
                    try clear hcz60_0
                    try clear hcz60_1
                    try clear hcz62_0
                    try clear hcz62_1
                    try clear hcz63_0
                    try clear hcz63_1
                    try clear hcz66_0
                    try clear hcz66_1
                    try clear hcz68_0
                    try clear hcz68_1
                    try clear hcz69_0
                    try clear hcz69_1
                    try clear hcz72_0
                    try clear hcz72_1
                    try clear hcz74_0
                    try clear hcz74_1
                    try clear hfz12_0
                    try clear hfz12_1
                    try clear hfz15_0
                    try clear hfz15_1
                    try clear hfz19_0
                    try clear hfz19_1
                    try clear hfz24_0
                    try clear hfz24_1
                    try clear hfz30_0
                    try clear hfz30_1
                    try clear hfz32_0
                    try clear hfz32_1
                    try clear hfz34_0
                    try clear hfz34_1
                    try clear hfz35_0
                    try clear hfz35_1
                    try clear hfz38_0
                    try clear hfz38_1
                    try clear hfz40_0
                    try clear hfz40_1
                    try clear hfz42_0
                    try clear hfz42_1
                    try clear hfz47_0
                    try clear hfz47_1
                    try clear hfz49_0
                    try clear hfz49_1
                    try clear hfz51_0
                    try clear hfz51_1
                    try clear hfz60_0
                    try clear hfz60_1
                    try clear hfz62_0
                    try clear hfz62_1
                    try clear hfz63_0
                    try clear hfz63_1
                    try clear hfz66_0
                    try clear hfz66_1
                    try clear hfz68_0
                    try clear hfz68_1
                    try clear hfz69_0
                    try clear hfz69_1
                    try clear hfz72_0
                    try clear hfz72_1
                    try clear hfz74_0
                    try clear hfz74_1
                    try clear p2
                    obtain ⟨x8_2, rfl, HA, HK2, BK263, BK264, BK265, HB⟩ := hrel
                    cases gk with
                    | zero => exact absurd HA.out (by simp [spec_RestMeet.l0])
                    | succ k2 =>
                      have H := HA.out
                      clear HA
                      simp only [spec_RestMeet.l0] at H
                      replace H := Option.bind_eq_some_iff.mp H
                      obtain ⟨t274, A750, H⟩ := H
                      replace H : (if t274 = a1_1 then (some ((wrap64 ((wrap64 (Int.tdiv a0_0 t272)) * a1_0)), x8_2, true)) else (spec_RestMeet.l0 k2 (wrap64 ((wrap64 (Int.tdiv a0_0 t272)) * a1_0)) (wrap64 (x8_2 + a0_0)) a0_0 a0_1 a1_0 a1_1)) = some (r1, r2, r3) := H
                      have A75 := Aside0.mk A750
                      clear A750
                      by_cases c76 : t274 = a1_1
                      · rw [if_pos c76] at H
                        have c76b0 : (t274 == a1_1) = true := beq_iff_eq.mpr c76
                        have c76b1 : (t274 != a1_1) = false := bne_eq_false_iff_eq.mpr c76
                        clear c76
                        simp only [Option.some.injEq, Prod.mk.injEq] at H
                        obtain ⟨rfl, rfl, rfl⟩ := H
                        have hnb77 := NB264_263.out
                        have hnc77 := NB263_264.out
                        have hnb78 := NB264_265.out
                        have hnc78 := NB265_264.out
                        obtain ⟨hcz79_0, hcz79_1, hfz79_0, hfz79_1⟩ := sqc2 BK264
                        go_wp2_with (first | (go_at_call 100; (with_reducible refine (spec_l1Mod.calls x8_2 a1_0 t274 _ A75.out).mono ?_); rintro e w' ⟨rfl, ⟨nd, rfl⟩⟩; (try first | exact ⟨rfl, _, World.drewN_drewN _ _ _⟩ | exact ⟨rfl, _, Eq.trans (World.drewN_drewN _ _ _) (congrArg (World.drewN _) (Nat.add_assoc _ _ _))⟩); have hnb80 := NB265_263.out; have hnc80 := NB263_265.out; obtain ⟨hcz81_0, hcz81_1, hfz81_0, hfz81_1⟩ := sqc2 BK265))
                        repeat (go_quiet (first | (go_at_call 100; (with_reducible refine (spec_l1Mod.calls x8_2 a1_0 t274 _ A75.out).mono ?_); rintro e w' ⟨rfl, ⟨nd, rfl⟩⟩; (try first | exact ⟨rfl, _, World.drewN_drewN _ _ _⟩ | exact ⟨rfl, _, Eq.trans (World.drewN_drewN _ _ _) (congrArg (World.drewN _) (Nat.add_assoc _ _ _))⟩); have hnb80 := NB265_263.out; have hnc80 := NB263_265.out; obtain ⟨hcz81_0, hcz81_1, hfz81_0, hfz81_1⟩ := sqc2 BK265)); try go_wp2_with (first | (go_at_call 100; (with_reducible refine (spec_l1Mod.calls x8_2 a1_0 t274 _ A75.out).mono ?_); rintro e w' ⟨rfl, ⟨nd, rfl⟩⟩; (try first | exact ⟨rfl, _, World.drewN_drewN _ _ _⟩ | exact ⟨rfl, _, Eq.trans (World.drewN_drewN _ _ _) (congrArg (World.drewN _) (Nat.add_assoc _ _ _))⟩); have hnb80 := NB265_263.out; have hnc80 := NB263_265.out; obtain ⟨hcz81_0, hcz81_1, hfz81_0, hfz81_1⟩ := sqc2 BK265)))
                        refine bodyPost_ret (results_ct rfl _ _ gb265 62 #[.int .i64 (wrap64 ((wrap64 (Int.tdiv a0_0 t272)) * a1_0)), .int .i64 x8_2] (0, 0) _ rfl (by refine sqt ?_; refine blk_put (cs := #[.int .i64 (wrap64 ((wrap64 (Int.tdiv a0_0 t272)) * a1_0)), .int .i64 0]) ?_ 1 _ rfl; refine sqt ?_; refine blk_put (cs := #[.int .i64 0, .int .i64 0]) ?_ 0 _ rfl; refine sqt ?_; exact BK265.out) Try.underlying62 rfl (by kernel_rfl)) rfl ?_
                        exact sqe HB
                      · rw [if_neg c76] at H
                        have c76b0 : (t274 == a1_1) = false := beq_eq_false_iff_ne.mpr c76
                        have c76b1 : (t274 != a1_1) = true := bne_iff_ne.mpr c76
                        have H' := Aside0.mk H
                        clear H
                        have hnb82 := NB264_263.out
                        have hnc82 := NB263_264.out
                        have hnb83 := NB264_265.out
                        have hnc83 := NB265_264.out
                        obtain ⟨hcz84_0, hcz84_1, hfz84_0, hfz84_1⟩ := sqc2 BK264
                        go_wp2_with (first | (go_at_call 100; (with_reducible refine (spec_l1Mod.calls x8_2 a1_0 t274 _ A75.out).mono ?_); rintro e w' ⟨rfl, ⟨nd, rfl⟩⟩; (try first | exact ⟨rfl, _, World.drewN_drewN _ _ _⟩ | exact ⟨rfl, _, Eq.trans (World.drewN_drewN _ _ _) (congrArg (World.drewN _) (Nat.add_assoc _ _ _))⟩); have hnb85 := NB263_265.out; have hnc85 := NB265_263.out; obtain ⟨hcz86_0, hcz86_1, hfz86_0, hfz86_1⟩ := sqc2 BK263))
                        repeat (go_quiet (first | (go_at_call 100; (with_reducible refine (spec_l1Mod.calls x8_2 a1_0 t274 _ A75.out).mono ?_); rintro e w' ⟨rfl, ⟨nd, rfl⟩⟩; (try first | exact ⟨rfl, _, World.drewN_drewN _ _ _⟩ | exact ⟨rfl, _, Eq.trans (World.drewN_drewN _ _ _) (congrArg (World.drewN _) (Nat.add_assoc _ _ _))⟩); have hnb85 := NB263_265.out; have hnc85 := NB265_263.out; obtain ⟨hcz86_0, hcz86_1, hfz86_0, hfz86_1⟩ := sqc2 BK263)); try go_wp2_with (first | (go_at_call 100; (with_reducible refine (spec_l1Mod.calls x8_2 a1_0 t274 _ A75.out).mono ?_); rintro e w' ⟨rfl, ⟨nd, rfl⟩⟩; (try first | exact ⟨rfl, _, World.drewN_drewN _ _ _⟩ | exact ⟨rfl, _, Eq.trans (World.drewN_drewN _ _ _) (congrArg (World.drewN _) (Nat.add_assoc _ _ _))⟩); have hnb85 := NB263_265.out; have hnc85 := NB265_263.out; obtain ⟨hcz86_0, hcz86_1, hfz86_0, hfz86_1⟩ := sqc2 BK263)))
                        go_roundg k2
                        case measure => have := HJ2.out; have := HK2.out; omega
                        case rel => exact ⟨(wrap64 (x8_2 + a0_0)), (by first | rfl | (simp; done) | (simp [*]; done)), H', ⟨by have := HJ2.out; have := HK2.out; omega⟩, sqk BK263, sqk BK264, sqk BK265, sqh HB⟩
            · rw [if_neg c54] at H
              have c54b0 : (t273 == 0) = false := beq_eq_false_iff_ne.mpr c54
              have c54b1 : (t273 != 0) = true := bne_iff_ne.mpr c54
              simp only [Option.some.injEq, Prod.mk.injEq] at H
              obtain ⟨rfl, rfl, rfl⟩ := H
              have hnb87 := NB263_264.out
              have hnc87 := NB264_263.out
              have hnb88 := NB263_265.out
              have hnc88 := NB265_263.out
              obtain ⟨hcz89_0, hcz89_1, hfz89_0, hfz89_1⟩ := sqc2 BK263
              have hnb90 := NB264_265.out
              have hnc90 := NB265_264.out
              obtain ⟨hcz91_0, hcz91_1, hfz91_0, hfz91_1⟩ := sqc2 BK264
              go_wp2_with (first | (go_at_call 109; (with_reducible refine (spec_l9Gcd.calls kj2 a0_0 a1_0 t272 _ A52.out).mono ?_); rintro e w' ⟨rfl, ⟨nd, rfl⟩⟩; (try first | exact ⟨rfl, _, World.drewN_drewN _ _ _⟩ | exact ⟨rfl, _, Eq.trans (World.drewN_drewN _ _ _) (congrArg (World.drewN _) (Nat.add_assoc _ _ _))⟩)) | (go_at_call 100; (with_reducible refine (spec_l1Mod.calls (wrap64 (a0_1 - a1_1)) t272 t273 _ A53.out).mono ?_); rintro e w' ⟨rfl, ⟨nd, rfl⟩⟩; (try first | exact ⟨rfl, _, World.drewN_drewN _ _ _⟩ | exact ⟨rfl, _, Eq.trans (World.drewN_drewN _ _ _) (congrArg (World.drewN _) (Nat.add_assoc _ _ _))⟩); obtain ⟨hcz92_0, hcz92_1, hfz92_0, hfz92_1⟩ := sqc2 BK265))
              repeat (go_quiet (first | (go_at_call 109; (with_reducible refine (spec_l9Gcd.calls kj2 a0_0 a1_0 t272 _ A52.out).mono ?_); rintro e w' ⟨rfl, ⟨nd, rfl⟩⟩; (try first | exact ⟨rfl, _, World.drewN_drewN _ _ _⟩ | exact ⟨rfl, _, Eq.trans (World.drewN_drewN _ _ _) (congrArg (World.drewN _) (Nat.add_assoc _ _ _))⟩)) | (go_at_call 100; (with_reducible refine (spec_l1Mod.calls (wrap64 (a0_1 - a1_1)) t272 t273 _ A53.out).mono ?_); rintro e w' ⟨rfl, ⟨nd, rfl⟩⟩; (try first | exact ⟨rfl, _, World.drewN_drewN _ _ _⟩ | exact ⟨rfl, _, Eq.trans (World.drewN_drewN _ _ _) (congrArg (World.drewN _) (Nat.add_assoc _ _ _))⟩); obtain ⟨hcz92_0, hcz92_1, hfz92_0, hfz92_1⟩ := sqc2 BK265)); try go_wp2_with (first | (go_at_call 109; (with_reducible refine (spec_l9Gcd.calls kj2 a0_0 a1_0 t272 _ A52.out).mono ?_); rintro e w' ⟨rfl, ⟨nd, rfl⟩⟩; (try first | exact ⟨rfl, _, World.drewN_drewN _ _ _⟩ | exact ⟨rfl, _, Eq.trans (World.drewN_drewN _ _ _) (congrArg (World.drewN _) (Nat.add_assoc _ _ _))⟩)) | (go_at_call 100; (with_reducible refine (spec_l1Mod.calls (wrap64 (a0_1 - a1_1)) t272 t273 _ A53.out).mono ?_); rintro e w' ⟨rfl, ⟨nd, rfl⟩⟩; (try first | exact ⟨rfl, _, World.drewN_drewN _ _ _⟩ | exact ⟨rfl, _, Eq.trans (World.drewN_drewN _ _ _) (congrArg (World.drewN _) (Nat.add_assoc _ _ _))⟩); obtain ⟨hcz92_0, hcz92_1, hfz92_0, hfz92_1⟩ := sqc2 BK265)))
              refine bodyPost_ret (results_ct rfl _ _ gb265 62 #[.int .i64 0, .int .i64 0] (0, 0) _ rfl (by refine sqt ?_; refine blk_put (cs := #[.int .i64 0, .int .i64 0]) ?_ 1 _ rfl; refine sqt ?_; refine blk_put (cs := #[.int .i64 0, .int .i64 0]) ?_ 0 _ rfl; refine sqt ?_; exact BK265.out) Try.underlying62 rfl (by kernel_rfl)) rfl ?_
              exact sqe HB

/-! ### spec_l9Make: function 111 -/
theorem spec_l9Make.mono : ∀ a0 a1 k, LeO (spec_l9Make.f k a0 a1) (spec_l9Make.f (k + 1) a0 a1) := by
  intro a0 a1 k
  unfold spec_l9Make.f
  repeat' first
      | (with_reducible exact spec_l9Gcd.mono _ _ _)
      | (with_reducible exact LeO.refl _)
      | (with_reducible exact LeO.none _)
      | (with_reducible refine LeO.ite ?_ ?_)
      | (with_reducible refine LeO.bind ?_ (fun _ => ?_))
      | exact spec_l9Gcd.mono _ _ _
      | exact LeO.none _
      | refine LeO.ite ?_ ?_
      | refine LeO.bind ?_ (fun _ => ?_)
set_option maxHeartbeats 8000000 in
set_option maxRecDepth 100000 in
theorem spec_l9Make.calls (k : Nat) (a0 : Int) (a1 : Int) (r1 : Int) (r2 : Int) (w : World) (h : spec_l9Make.f k a0 a1 = some (r1, r2)) :
    Calls Try.prog 111 #[.int .i64 a0, .int .i64 a1] w fun e w' => e = .returned (.agg #[.int .i64 r1, .int .i64 r2]) ∧ Below w.heap.size w w' := by
  have hu62 := Try.underlying62
  have HB := Aside0.mk (Below.refl w.heap.size w)
  have H : (if a0 > 65536 then ((spec_l9Gcd.f k a0 65536).bind fun t276 => (if t276 = 0 then (some (0, a1)) else ((spec_l1Mod.f a1 t276).bind fun t277 => (some (t276, t277))))) else (if a0 = 0 then (some (0, a1)) else ((spec_l1Mod.f a1 a0).bind fun t278 => (some (a0, t278))))) = some (r1, r2) := h
  clear h
  by_cases c3 : a0 > 65536
  · rw [if_pos c3] at H
    have c3b0 : decide (65536 < a0) = true := decide_eq_true c3
    clear c3
    replace H := Option.bind_eq_some_iff.mp H
    obtain ⟨t276, A40, H⟩ := H
    replace H : (if t276 = 0 then (some (0, a1)) else ((spec_l1Mod.f a1 t276).bind fun t277 => (some (t276, t277)))) = some (r1, r2) := H
    have A4 := Aside0.mk A40
    clear A40
    by_cases c5 : t276 = 0
    · rw [if_pos c5] at H
      have c5b0 : (t276 == 0) = true := beq_iff_eq.mpr c5
      have c5b1 : (t276 != 0) = false := bne_eq_false_iff_eq.mpr c5
      clear c5
      simp only [Option.some.injEq, Prod.mk.injEq] at H
      obtain ⟨rfl, rfl⟩ := H
      go_enter Try.func111, Try.ntmps111
      go_wp2_with (first | ((with_reducible refine gate_dst (N := 4) rfl ?_); refine sqx 4 #[.int .i64 0, .int .i64 0] 62 ?_; intro gb275 hg w6 hbox hb; have BK275 := Aside0.mk (hbox); have GW275 := sqg HB hg; have GE275 := sqg HB hg; replace HB := sqs HB hb; clear hb hbox hg) | ((with_reducible refine gate_callee (f := 109) rfl ?_); refine sqL (some 8) Try.func109 #[.int .i64 a0, .int .i64 65536] ?_; (with_reducible refine (spec_l9Gcd.calls k a0 65536 t276 _ A4.out).mono ?_); rintro e w' ⟨rfl, ⟨nd, rfl⟩⟩; refine ⟨_, rfl, ?_⟩; (try (rw [drewN_self w6]; generalize hq_ : World.drewN w6 _ = w6; replace BK275 := sqq BK275 hq_; replace HB := sqr HB hq_; clear hq_; obtain ⟨hqz1_0, hqz1_1, hqf1_0, hqf1_1⟩ := sqc2 BK275)); obtain ⟨hcz7_0, hcz7_1, hfz7_0, hfz7_1⟩ := sqc2 BK275))
      refine bodyPost_ret (results_cell_row rfl _ _ gb275 62 #[.int .i64 0, .int .i64 a1] (0, 0) _ rfl (by refine sqt ?_; refine blk_put (cs := #[.int .i64 0, .int .i64 0]) ?_ 1 _ rfl; refine sqt ?_; refine blk_put (cs := #[.int .i64 0, .int .i64 0]) ?_ 0 _ rfl; refine sqt ?_; exact BK275.out) Try.underlying62 rfl (by kernel_rfl)) rfl ?_
      exact sqe HB
    · rw [if_neg c5] at H
      have c5b0 : (t276 == 0) = false := beq_eq_false_iff_ne.mpr c5
      have c5b1 : (t276 != 0) = true := bne_iff_ne.mpr c5
      replace H := Option.bind_eq_some_iff.mp H
      obtain ⟨t277, A80, H⟩ := H
      replace H : (some (t276, t277)) = some (r1, r2) := H
      have A8 := Aside0.mk A80
      clear A80
      simp only [Option.some.injEq, Prod.mk.injEq] at H
      obtain ⟨rfl, rfl⟩ := H
      go_enter Try.func111, Try.ntmps111
      go_wp2_with (first | ((with_reducible refine gate_dst (N := 4) rfl ?_); refine sqx 4 #[.int .i64 0, .int .i64 0] 62 ?_; intro gb275 hg w9 hbox hb; have BK275 := Aside0.mk (hbox); have GW275 := sqg HB hg; have GE275 := sqg HB hg; replace HB := sqs HB hb; clear hb hbox hg) | ((with_reducible refine gate_callee (f := 109) rfl ?_); refine sqL (some 8) Try.func109 #[.int .i64 a0, .int .i64 65536] ?_; (with_reducible refine (spec_l9Gcd.calls k a0 65536 t276 _ A4.out).mono ?_); rintro e w' ⟨rfl, ⟨nd, rfl⟩⟩; refine ⟨_, rfl, ?_⟩; (try (rw [drewN_self w9]; generalize hq_ : World.drewN w9 _ = w9; replace BK275 := sqq BK275 hq_; replace HB := sqr HB hq_; clear hq_; obtain ⟨hqz2_0, hqz2_1, hqf2_0, hqf2_1⟩ := sqc2 BK275))) | ((with_reducible refine gate_callee (f := 100) rfl ?_); refine sqL (some 16) Try.func100 #[.int .i64 a1, .int .i64 t276] ?_; (with_reducible refine (spec_l1Mod.calls a1 t276 t277 _ A8.out).mono ?_); rintro e w' ⟨rfl, ⟨nd, rfl⟩⟩; refine ⟨_, rfl, ?_⟩; (try (rw [drewN_self w9]; generalize hq_ : World.drewN w9 _ = w9; replace BK275 := sqq BK275 hq_; replace HB := sqr HB hq_; clear hq_; obtain ⟨hqz3_0, hqz3_1, hqf3_0, hqf3_1⟩ := sqc2 BK275)); obtain ⟨hcz10_0, hcz10_1, hfz10_0, hfz10_1⟩ := sqc2 BK275))
      refine bodyPost_ret (results_cell_row rfl _ _ gb275 62 #[.int .i64 t276, .int .i64 t277] (0, 0) _ rfl (by refine sqt ?_; refine blk_put (cs := #[.int .i64 t276, .int .i64 0]) ?_ 1 _ rfl; refine sqt ?_; refine blk_put (cs := #[.int .i64 0, .int .i64 0]) ?_ 0 _ rfl; refine sqt ?_; exact BK275.out) Try.underlying62 rfl (by kernel_rfl)) rfl ?_
      exact sqe HB
  · rw [if_neg c3] at H
    have c3b0 : decide (65536 < a0) = false := decide_eq_false c3
    clear c3
    by_cases c11 : a0 = 0
    · rw [if_pos c11] at H
      have c11b0 : (a0 == 0) = true := beq_iff_eq.mpr c11
      have c11b1 : (a0 != 0) = false := bne_eq_false_iff_eq.mpr c11
      clear c11
      simp only [Option.some.injEq, Prod.mk.injEq] at H
      obtain ⟨rfl, rfl⟩ := H
      go_enter Try.func111, Try.ntmps111
      go_wp2_with (first | ((with_reducible refine gate_dst (N := 4) rfl ?_); refine sqx 4 #[.int .i64 0, .int .i64 0] 62 ?_; intro gb275 hg w12 hbox hb; have BK275 := Aside0.mk (hbox); have GW275 := sqg HB hg; have GE275 := sqg HB hg; replace HB := sqs HB hb; clear hb hbox hg; obtain ⟨hcz13_0, hcz13_1, hfz13_0, hfz13_1⟩ := sqc2 BK275))
      refine bodyPost_ret (results_cell_row rfl _ _ gb275 62 #[.int .i64 0, .int .i64 a1] (0, 0) _ rfl (by refine sqt ?_; refine blk_put (cs := #[.int .i64 0, .int .i64 0]) ?_ 1 _ rfl; refine sqt ?_; refine blk_put (cs := #[.int .i64 0, .int .i64 0]) ?_ 0 _ rfl; refine sqt ?_; exact BK275.out) Try.underlying62 rfl (by kernel_rfl)) rfl ?_
      exact sqe HB
    · rw [if_neg c11] at H
      have c11b0 : (a0 == 0) = false := beq_eq_false_iff_ne.mpr c11
      have c11b1 : (a0 != 0) = true := bne_iff_ne.mpr c11
      replace H := Option.bind_eq_some_iff.mp H
      obtain ⟨t278, A140, H⟩ := H
      replace H : (some (a0, t278)) = some (r1, r2) := H
      have A14 := Aside0.mk A140
      clear A140
      simp only [Option.some.injEq, Prod.mk.injEq] at H
      obtain ⟨rfl, rfl⟩ := H
      go_enter Try.func111, Try.ntmps111
      go_wp2_with (first | ((with_reducible refine gate_dst (N := 4) rfl ?_); refine sqx 4 #[.int .i64 0, .int .i64 0] 62 ?_; intro gb275 hg w15 hbox hb; have BK275 := Aside0.mk (hbox); have GW275 := sqg HB hg; have GE275 := sqg HB hg; replace HB := sqs HB hb; clear hb hbox hg) | ((with_reducible refine gate_callee (f := 100) rfl ?_); refine sqL (some 16) Try.func100 #[.int .i64 a1, .int .i64 a0] ?_; (with_reducible refine (spec_l1Mod.calls a1 a0 t278 _ A14.out).mono ?_); rintro e w' ⟨rfl, ⟨nd, rfl⟩⟩; refine ⟨_, rfl, ?_⟩; (try (rw [drewN_self w15]; generalize hq_ : World.drewN w15 _ = w15; replace BK275 := sqq BK275 hq_; replace HB := sqr HB hq_; clear hq_; obtain ⟨hqz4_0, hqz4_1, hqf4_0, hqf4_1⟩ := sqc2 BK275)); obtain ⟨hcz16_0, hcz16_1, hfz16_0, hfz16_1⟩ := sqc2 BK275))
      refine bodyPost_ret (results_cell_row rfl _ _ gb275 62 #[.int .i64 a0, .int .i64 t278] (0, 0) _ rfl (by refine sqt ?_; refine blk_put (cs := #[.int .i64 a0, .int .i64 0]) ?_ 1 _ rfl; refine sqt ?_; refine blk_put (cs := #[.int .i64 0, .int .i64 0]) ?_ 0 _ rfl; refine sqt ?_; exact BK275.out) Try.underlying62 rfl (by kernel_rfl)) rfl ?_
      exact sqe HB

end Go.Proofs.Ytmdcgkkkfncieaa.PFnRestLattice
