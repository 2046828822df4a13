/- Functions of the program as plain Lean functions, and that calls of them come to what these tell. Conditions: those in each law. -/
import Derived.Test.YtkekcenlleebeaaSq
import Derived.Test.YtkekcenlleebeaaDFnValMake
import Derived.Test.YtkekcenlleebeaaQFnValMakex0
import Derived.Test.YtkekcenlleebeaaQFnValMakex3
import Derived.Test.YtkekcenlleebeaaQFnValMakex7
import Derived.Test.YtkekcenlleebeaaQFnValMakex8
import Derived.Test.YtkekcenlleebeaaQFnValMakex11
namespace Go.Proofs.Ytkekcenlleebeaa.PFnValMake
open Go.RowKit Go.Proofs.Ytkekcenlleebeaa.Sq Go.Proofs.YtkekcenlleebeaaW.PrintWords Go.Proofs.YtkekcenlleebeaaW.PrintLast Go.Proofs.YtkekcenlleebeaaW.PrintMore
attribute [local go_sem] max2_int min2_int max_two min_two max_three min_three max_four min_four   -- for this text's walks alone
set_option linter.unusedVariables false
set_option linter.unusedSimpArgs false

/-! ### laws_ofRest: function 21 -/
theorem laws_ofRest.mono_l : ∀ k, (∀ y0 y1 y2 y3 y4, LeO (laws_ofRest.j0 k y0 y1 y2 y3 y4) (laws_ofRest.j0 (k + 1) y0 y1 y2 y3 y4))
  | 0 => fun _ _ _ _ _ r h => by simp [laws_ofRest.j0] at h
  | k + 1 => by
    have ih0 := laws_ofRest.mono_l k
    · intro y0 y1 y2 y3 y4
      unfold laws_ofRest.j0
      repeat' first
      | (with_reducible exact ih0 _ _ _ _ _)
      | (with_reducible exact LeO.refl _)
      | (with_reducible exact LeO.none _)
      | (with_reducible refine LeO.ite ?_ ?_)
      | (with_reducible refine LeO.bind ?_ (fun _ => ?_))
      | exact ih0 _ _ _ _ _
      | exact LeO.none _
      | refine LeO.ite ?_ ?_
      | refine LeO.bind ?_ (fun _ => ?_)
theorem laws_ofRest.mono : ∀ a0 a1 a2 a3 k, LeO (laws_ofRest.f k a0 a1 a2 a3) (laws_ofRest.f (k + 1) a0 a1 a2 a3) := by
  intro a0 a1 a2 a3 k
  have ih0 := laws_ofRest.mono_l k
  unfold laws_ofRest.f
  repeat' first
      | (with_reducible exact ih0 _ _ _ _ _)
      | (with_reducible exact LeO.refl _)
      | (with_reducible exact LeO.none _)
      | (with_reducible refine LeO.ite ?_ ?_)
      | (with_reducible refine LeO.bind ?_ (fun _ => ?_))
      | exact ih0 _ _ _ _ _
      | exact LeO.none _
      | refine LeO.ite ?_ ?_
      | refine LeO.bind ?_ (fun _ => ?_)
set_option maxHeartbeats 8000000 in
set_option maxRecDepth 100000 in
theorem laws_ofRest.calls (k : Nat) (a0_0 : Int) (a0_1 : Int) (A1 : Option Addr) (c1 : Nat) (l1 : List Int) (a2 : Int) (r : Int) (w : World) (hr1 : Kd.C (Kd.int .u8) w A1 l1.length l1) (hc1 : l1.length ≤ c1) (h : laws_ofRest.f k a0_0 a0_1 l1 a2 = some r) :
    Calls Try.prog 21 #[.agg #[.int .i64 a0_0, .int .i64 a0_1], .slice A1 l1.length c1, .int .i64 a2] w fun e w' => e = .returned (.int .i64 r) ∧ Below w.heap.size w w' := by
  have hu26 := Try.underlying26
  have HR1 := Aside0.mk hr1
  have HC1 := Aside0.mk hc1
  clear hr1 hc1
  have HB := Aside0.mk (Below.refl w.heap.size w)
  have H : ((spec_RestOk.f a0_0 a0_1).bind fun t351 => (if t351 = true then (laws_ofRest.j0 k l1 a2 (a0_0 == 0) a0_0 a0_1) else (laws_ofRest.j0 k l1 a2 true a0_0 a0_1))) = some r := h
  clear h
  have HC4 := Aside0.mk H
  clear H
  go_enter Try.func21, Try.ntmps21
  go_upto_region 1 with (first | ((with_reducible refine gate_dst (N := 3) rfl ?_); refine sqx 3 #[.int .i64 a0_0, .int .i64 a0_1] 26 ?_; intro gb350 hg w5 hbox hb; have BK350 := Aside0.mk (hbox); have GW350 := sqg HB hg; have GE350 := sqg HB hg; replace HB := sqs HB hb; clear hb hbox hg))
  repeat (go_quiet (first | ((with_reducible refine gate_dst (N := 3) rfl ?_); refine sqx 3 #[.int .i64 a0_0, .int .i64 a0_1] 26 ?_; intro gb350 hg w5 hbox hb; have BK350 := Aside0.mk (hbox); have GW350 := sqg HB hg; have GE350 := sqg HB hg; replace HB := sqs HB hb; clear hb hbox hg)); go_upto_region 1 with (first | ((with_reducible refine gate_dst (N := 3) rfl ?_); refine sqx 3 #[.int .i64 a0_0, .int .i64 a0_1] 26 ?_; intro gb350 hg w5 hbox hb; have BK350 := Aside0.mk (hbox); have GW350 := sqg HB hg; have GE350 := sqg HB hg; replace HB := sqs HB hb; clear hb hbox hg)))
  (try simp only [Act.put, List.setIfInBounds_toArray, List.set_cons_zero, List.set_cons_succ])
  go_cut [15] (fun v15 wc => ∃ (kq : Nat) (x15_3 : Bool), v15 = .bool x15_3 ∧ Aside0 (laws_ofRest.j0 kq l1 a2 x15_3 a0_0 a0_1 = some r) ∧ Aside0 (kq ≤ k) ∧ Aside0 (wc.heap[gb350]? = some (.cells #[.int .i64 a0_0, .int .i64 a0_1] 26 (0, 0))) ∧ Aside0 (Below w.heap.size w wc))
  case first =>
    have H := HC4.out
    clear HC4
    replace H := Option.bind_eq_some_iff.mp H
    obtain ⟨t351, A60, H⟩ := H
    replace H : (if t351 = true then (laws_ofRest.j0 k l1 a2 (a0_0 == 0) a0_0 a0_1) else (laws_ofRest.j0 k l1 a2 true a0_0 a0_1)) = some r := H
    have A6 := Aside0.mk A60
    clear A60
    by_cases c7 : t351 = true
    · subst c7
      have H1 : (laws_ofRest.j0 k l1 a2 (a0_0 == 0) a0_0 a0_1) = some r := by rw [if_pos rfl] at H; exact H
      clear H
      have H := H1
      clear H1
      have H' := Aside0.mk H
      clear H
      obtain ⟨hcz8_0, hcz8_1, hfz8_0, hfz8_1⟩ := sqc2 BK350
      go_wp2_with (first | (go_at_call 66; (with_reducible refine (spec_RestOk.calls a0_0 a0_1 true _ A6.out).mono ?_); rintro e w9 ⟨rfl, hb⟩; replace BK350 := sqb BK350 hb; replace HB := sqs HB hb; (try clear hb); obtain ⟨hcz10_0, hcz10_1, hfz10_0, hfz10_1⟩ := sqc2 BK350))
      repeat (go_quiet (first | (go_at_call 66; (with_reducible refine (spec_RestOk.calls a0_0 a0_1 true _ A6.out).mono ?_); rintro e w9 ⟨rfl, hb⟩; replace BK350 := sqb BK350 hb; replace HB := sqs HB hb; (try clear hb); obtain ⟨hcz10_0, hcz10_1, hfz10_0, hfz10_1⟩ := sqc2 BK350)); try go_wp2_with (first | (go_at_call 66; (with_reducible refine (spec_RestOk.calls a0_0 a0_1 true _ A6.out).mono ?_); rintro e w9 ⟨rfl, hb⟩; replace BK350 := sqb BK350 hb; replace HB := sqs HB hb; (try clear hb); obtain ⟨hcz10_0, hcz10_1, hfz10_0, hfz10_1⟩ := sqc2 BK350)))
      go_meet
      case rel => exact ⟨_, ((a0_0 == 0)), (by first | rfl | (simp; done) | (simp [*]; done)), H', ⟨by first | omega | exact Nat.le_refl _⟩, sqk BK350, sqh HB⟩
    · replace c7 := Bool.eq_false_iff.mpr c7
      subst c7
      have H1 : (laws_ofRest.j0 k l1 a2 true a0_0 a0_1) = some r := by rw [if_neg (show ¬ (false = true) by decide)] at H; exact H
      clear H
      have H := H1
      clear H1
      have H' := Aside0.mk H
      clear H
      obtain ⟨hcz11_0, hcz11_1, hfz11_0, hfz11_1⟩ := sqc2 BK350
      go_wp2_with (first | (go_at_call 66; (with_reducible refine (spec_RestOk.calls a0_0 a0_1 false _ A6.out).mono ?_); rintro e w12 ⟨rfl, hb⟩; replace BK350 := sqb BK350 hb; replace HB := sqs HB hb; (try clear hb)))
      repeat (go_quiet (first | (go_at_call 66; (with_reducible refine (spec_RestOk.calls a0_0 a0_1 false _ A6.out).mono ?_); rintro e w12 ⟨rfl, hb⟩; replace BK350 := sqb BK350 hb; replace HB := sqs HB hb; (try clear hb))); try go_wp2_with (first | (go_at_call 66; (with_reducible refine (spec_RestOk.calls a0_0 a0_1 false _ A6.out).mono ?_); rintro e w12 ⟨rfl, hb⟩; replace BK350 := sqb BK350 hb; replace HB := sqs HB hb; (try clear hb))))
      go_meet
      case rel => exact ⟨_, (true), (by first | rfl | (simp; done) | (simp [*]; done)), H', ⟨by first | omega | exact Nat.le_refl _⟩, sqk BK350, sqh HB⟩
  case rest =>
    clear HC4
    try clear c1
    obtain ⟨kq, x15_3, rfl, HA, HJ3, BK350, HB⟩ := hcut
    cases kq with
    | zero => exact absurd HA.out (by simp [laws_ofRest.j0])
    | succ kj3 =>
      have H := HA.out
      clear HA
      simp only [laws_ofRest.j0] at H
      by_cases c13 : x15_3 = true
      · subst c13
        have H1 : (some a0_1) = some r := by rw [if_pos rfl] at H; exact H
        clear H
        have H := H1
        clear H1
        obtain rfl := Option.some.inj H
        obtain ⟨hcz14_0, hcz14_1, hfz14_0, hfz14_1⟩ := sqc2 BK350
        go_wp2
        repeat (go_quiet (fail); try go_wp2)
        go_ret
        exact sqe HB
      · replace c13 := Bool.eq_false_iff.mpr c13
        subst c13
        have H1 : ((laws_at.f l1 a2).bind fun t352 => ((laws_at.f l1 (wrap64 (a2 + 3))).bind fun t353 => (if (Int.tmod t353 3) = 0 then ((laws_wide.f l1 a2).bind fun t354 => (if a0_0 = 0 then (none) else ((spec_NumWrap.f (wrap64 (a0_1 + (wrap64 (a0_0 * (wrap64 ((wrap64 (Int.tdiv t354 a0_0)) - 16384))))))).bind fun t355 => (some t355)))) else ((spec_NumWrap.f (wrap64 (a0_1 + (wrap64 (a0_0 * (wrap64 ((wrap64 (t352)) - 128))))))).bind fun t356 => (some t356))))) = some r := by rw [if_neg (show ¬ (false = true) by decide)] at H; exact H
        clear H
        have H := H1
        clear H1
        replace H := Option.bind_eq_some_iff.mp H
        obtain ⟨t352, A150, H⟩ := H
        replace H : ((laws_at.f l1 (wrap64 (a2 + 3))).bind fun t353 => (if (Int.tmod t353 3) = 0 then ((laws_wide.f l1 a2).bind fun t354 => (if a0_0 = 0 then (none) else ((spec_NumWrap.f (wrap64 (a0_1 + (wrap64 (a0_0 * (wrap64 ((wrap64 (Int.tdiv t354 a0_0)) - 16384))))))).bind fun t355 => (some t355)))) else ((spec_NumWrap.f (wrap64 (a0_1 + (wrap64 (a0_0 * (wrap64 ((wrap64 (t352)) - 128))))))).bind fun t356 => (some t356)))) = some r := H
        have A15 := Aside0.mk A150
        clear A150
        replace H := Option.bind_eq_some_iff.mp H
        obtain ⟨t353, A160, H⟩ := H
        replace H : (if (Int.tmod t353 3) = 0 then ((laws_wide.f l1 a2).bind fun t354 => (if a0_0 = 0 then (none) else ((spec_NumWrap.f (wrap64 (a0_1 + (wrap64 (a0_0 * (wrap64 ((wrap64 (Int.tdiv t354 a0_0)) - 16384))))))).bind fun t355 => (some t355)))) else ((spec_NumWrap.f (wrap64 (a0_1 + (wrap64 (a0_0 * (wrap64 ((wrap64 (t352)) - 128))))))).bind fun t356 => (some t356))) = some r := H
        have A16 := Aside0.mk A160
        clear A160
        by_cases c17 : (Int.tmod t353 3) = 0
        · rw [if_pos c17] at H
          have c17b0 : ((Int.tmod t353 3) == 0) = true := beq_iff_eq.mpr c17
          have c17b1 : ((Int.tmod t353 3) != 0) = false := bne_eq_false_iff_eq.mpr c17
          clear c17
          replace H := Option.bind_eq_some_iff.mp H
          obtain ⟨t354, A180, H⟩ := H
          replace H : (if a0_0 = 0 then (none) else ((spec_NumWrap.f (wrap64 (a0_1 + (wrap64 (a0_0 * (wrap64 ((wrap64 (Int.tdiv t354 a0_0)) - 16384))))))).bind fun t355 => (some t355))) = some r := H
          have A18 := Aside0.mk A180
          clear A180
          by_cases c19 : a0_0 = 0
          · rw [if_pos c19] at H
            exact absurd H (by simp)
          · rw [if_neg c19] at H
            have c19b0 : (a0_0 == 0) = false := beq_eq_false_iff_ne.mpr c19
            have c19b1 : (a0_0 != 0) = true := bne_iff_ne.mpr c19
            replace H := Option.bind_eq_some_iff.mp H
            obtain ⟨t355, A200, H⟩ := H
            replace H : (some t355) = some r := H
            have A20 := Aside0.mk A200
            clear A200
            obtain rfl := Option.some.inj H
            obtain ⟨hcz21_0, hcz21_1, hfz21_0, hfz21_1⟩ := sqc2 BK350
            go_wp2_with (first | (go_at_call 33; (with_reducible refine (laws_at.calls _ _ l1 a2 t352 _ ?side1 ?side2 A15.out).mono ?_); (case side1 => repeat (first | exact (Kd.C_below HR1.out HB.out) | (with_reducible refine Kd.C_alloc ?_ _) | (with_reducible refine Kd.C_drewN ?_ _) | (with_reducible refine Kd.C_drew ?_))); (case side2 => exact HC1.out); rintro e w' ⟨rfl, ⟨nd, rfl⟩⟩; (try first | exact ⟨rfl, _, World.drewN_drewN _ _ _⟩ | exact ⟨rfl, _, Eq.trans (World.drewN_drewN _ _ _) (congrArg (World.drewN _) (Nat.add_assoc _ _ _))⟩)) | (go_at_call 33; (with_reducible refine (laws_at.calls _ _ l1 (wrap64 (a2 + 3)) t353 _ ?side1 ?side2 A16.out).mono ?_); (case side1 => repeat (first | exact (Kd.C_below HR1.out (by repeat (first | (with_reducible first | exact HB.out | apply below_alloc | apply pw_below_drewN | apply below_drew1 | refine below_set ?_ GE350.out) | exact HB.out))) | (with_reducible refine Kd.C_alloc ?_ _) | (with_reducible refine Kd.C_drewN ?_ _) | (with_reducible refine Kd.C_drew ?_))); (case side2 => exact HC1.out); rintro e w' ⟨rfl, ⟨nd, rfl⟩⟩; (try first | exact ⟨rfl, _, World.drewN_drewN _ _ _⟩ | exact ⟨rfl, _, Eq.trans (World.drewN_drewN _ _ _) (congrArg (World.drewN _) (Nat.add_assoc _ _ _))⟩)) | (go_at_call 55; (with_reducible refine (laws_wide.calls _ _ l1 a2 t354 _ ?side1 ?side2 A18.out).mono ?_); (case side1 => repeat (first | exact (Kd.C_below HR1.out (by repeat (first | (with_reducible first | exact HB.out | apply below_alloc | apply pw_below_drewN | apply below_drew1 | refine below_set ?_ GE350.out) | exact HB.out))) | (with_reducible refine Kd.C_alloc ?_ _) | (with_reducible refine Kd.C_drewN ?_ _) | (with_reducible refine Kd.C_drew ?_))); (case side2 => exact HC1.out); rintro e w' ⟨rfl, ⟨nd, rfl⟩⟩; (try first | exact ⟨rfl, _, World.drewN_drewN _ _ _⟩ | exact ⟨rfl, _, Eq.trans (World.drewN_drewN _ _ _) (congrArg (World.drewN _) (Nat.add_assoc _ _ _))⟩)) | (go_at_call 54; (with_reducible refine (spec_NumWrap.calls (wrap64 (a0_1 + (wrap64 (a0_0 * (wrap64 ((wrap64 (Int.tdiv t354 a0_0)) - 16384)))))) t355 _ A20.out).mono ?_); rintro e w' ⟨rfl, ⟨nd, rfl⟩⟩; (try first | exact ⟨rfl, _, World.drewN_drewN _ _ _⟩ | exact ⟨rfl, _, Eq.trans (World.drewN_drewN _ _ _) (congrArg (World.drewN _) (Nat.add_assoc _ _ _))⟩)))
            repeat (go_quiet (first | (go_at_call 33; (with_reducible refine (laws_at.calls _ _ l1 a2 t352 _ ?side1 ?side2 A15.out).mono ?_); (case side1 => repeat (first | exact (Kd.C_below HR1.out HB.out) | (with_reducible refine Kd.C_alloc ?_ _) | (with_reducible refine Kd.C_drewN ?_ _) | (with_reducible refine Kd.C_drew ?_))); (case side2 => exact HC1.out); rintro e w' ⟨rfl, ⟨nd, rfl⟩⟩; (try first | exact ⟨rfl, _, World.drewN_drewN _ _ _⟩ | exact ⟨rfl, _, Eq.trans (World.drewN_drewN _ _ _) (congrArg (World.drewN _) (Nat.add_assoc _ _ _))⟩)) | (go_at_call 33; (with_reducible refine (laws_at.calls _ _ l1 (wrap64 (a2 + 3)) t353 _ ?side1 ?side2 A16.out).mono ?_); (case side1 => repeat (first | exact (Kd.C_below HR1.out (by repeat (first | (with_reducible first | exact HB.out | apply below_alloc | apply pw_below_drewN | apply below_drew1 | refine below_set ?_ GE350.out) | exact HB.out))) | (with_reducible refine Kd.C_alloc ?_ _) | (with_reducible refine Kd.C_drewN ?_ _) | (with_reducible refine Kd.C_drew ?_))); (case side2 => exact HC1.out); rintro e w' ⟨rfl, ⟨nd, rfl⟩⟩; (try first | exact ⟨rfl, _, World.drewN_drewN _ _ _⟩ | exact ⟨rfl, _, Eq.trans (World.drewN_drewN _ _ _) (congrArg (World.drewN _) (Nat.add_assoc _ _ _))⟩)) | (go_at_call 55; (with_reducible refine (laws_wide.calls _ _ l1 a2 t354 _ ?side1 ?side2 A18.out).mono ?_); (case side1 => repeat (first | exact (Kd.C_below HR1.out (by repeat (first | (with_reducible first | exact HB.out | apply below_alloc | apply pw_below_drewN | apply below_drew1 | refine below_set ?_ GE350.out) | exact HB.out))) | (with_reducible refine Kd.C_alloc ?_ _) | (with_reducible refine Kd.C_drewN ?_ _) | (with_reducible refine Kd.C_drew ?_))); (case side2 => exact HC1.out); rintro e w' ⟨rfl, ⟨nd, rfl⟩⟩; (try first | exact ⟨rfl, _, World.drewN_drewN _ _ _⟩ | exact ⟨rfl, _, Eq.trans (World.drewN_drewN _ _ _) (congrArg (World.drewN _) (Nat.add_assoc _ _ _))⟩)) | (go_at_call 54; (with_reducible refine (spec_NumWrap.calls (wrap64 (a0_1 + (wrap64 (a0_0 * (wrap64 ((wrap64 (Int.tdiv t354 a0_0)) - 16384)))))) t355 _ A20.out).mono ?_); rintro e w' ⟨rfl, ⟨nd, rfl⟩⟩; (try first | exact ⟨rfl, _, World.drewN_drewN _ _ _⟩ | exact ⟨rfl, _, Eq.trans (World.drewN_drewN _ _ _) (congrArg (World.drewN _) (Nat.add_assoc _ _ _))⟩))); try go_wp2_with (first | (go_at_call 33; (with_reducible refine (laws_at.calls _ _ l1 a2 t352 _ ?side1 ?side2 A15.out).mono ?_); (case side1 => repeat (first | exact (Kd.C_below HR1.out HB.out) | (with_reducible refine Kd.C_alloc ?_ _) | (with_reducible refine Kd.C_drewN ?_ _) | (with_reducible refine Kd.C_drew ?_))); (case side2 => exact HC1.out); rintro e w' ⟨rfl, ⟨nd, rfl⟩⟩; (try first | exact ⟨rfl, _, World.drewN_drewN _ _ _⟩ | exact ⟨rfl, _, Eq.trans (World.drewN_drewN _ _ _) (congrArg (World.drewN _) (Nat.add_assoc _ _ _))⟩)) | (go_at_call 33; (with_reducible refine (laws_at.calls _ _ l1 (wrap64 (a2 + 3)) t353 _ ?side1 ?side2 A16.out).mono ?_); (case side1 => repeat (first | exact (Kd.C_below HR1.out (by repeat (first | (with_reducible first | exact HB.out | apply below_alloc | apply pw_below_drewN | apply below_drew1 | refine below_set ?_ GE350.out) | exact HB.out))) | (with_reducible refine Kd.C_alloc ?_ _) | (with_reducible refine Kd.C_drewN ?_ _) | (with_reducible refine Kd.C_drew ?_))); (case side2 => exact HC1.out); rintro e w' ⟨rfl, ⟨nd, rfl⟩⟩; (try first | exact ⟨rfl, _, World.drewN_drewN _ _ _⟩ | exact ⟨rfl, _, Eq.trans (World.drewN_drewN _ _ _) (congrArg (World.drewN _) (Nat.add_assoc _ _ _))⟩)) | (go_at_call 55; (with_reducible refine (laws_wide.calls _ _ l1 a2 t354 _ ?side1 ?side2 A18.out).mono ?_); (case side1 => repeat (first | exact (Kd.C_below HR1.out (by repeat (first | (with_reducible first | exact HB.out | apply below_alloc | apply pw_below_drewN | apply below_drew1 | refine below_set ?_ GE350.out) | exact HB.out))) | (with_reducible refine Kd.C_alloc ?_ _) | (with_reducible refine Kd.C_drewN ?_ _) | (with_reducible refine Kd.C_drew ?_))); (case side2 => exact HC1.out); rintro e w' ⟨rfl, ⟨nd, rfl⟩⟩; (try first | exact ⟨rfl, _, World.drewN_drewN _ _ _⟩ | exact ⟨rfl, _, Eq.trans (World.drewN_drewN _ _ _) (congrArg (World.drewN _) (Nat.add_assoc _ _ _))⟩)) | (go_at_call 54; (with_reducible refine (spec_NumWrap.calls (wrap64 (a0_1 + (wrap64 (a0_0 * (wrap64 ((wrap64 (Int.tdiv t354 a0_0)) - 16384)))))) t355 _ A20.out).mono ?_); rintro e w' ⟨rfl, ⟨nd, rfl⟩⟩; (try first | exact ⟨rfl, _, World.drewN_drewN _ _ _⟩ | exact ⟨rfl, _, Eq.trans (World.drewN_drewN _ _ _) (congrArg (World.drewN _) (Nat.add_assoc _ _ _))⟩))))
            go_ret
            exact sqe HB
        · rw [if_neg c17] at H
          have c17b0 : ((Int.tmod t353 3) == 0) = false := beq_eq_false_iff_ne.mpr c17
          have c17b1 : ((Int.tmod t353 3) != 0) = true := bne_iff_ne.mpr c17
          replace H := Option.bind_eq_some_iff.mp H
          obtain ⟨t356, A220, H⟩ := H
          replace H : (some t356) = some r := H
          have A22 := Aside0.mk A220
          clear A220
          obtain rfl := Option.some.inj H
          obtain ⟨hcz23_0, hcz23_1, hfz23_0, hfz23_1⟩ := sqc2 BK350
          go_wp2_with (first | (go_at_call 33; (with_reducible refine (laws_at.calls _ _ l1 a2 t352 _ ?side1 ?side2 A15.out).mono ?_); (case side1 => repeat (first | exact (Kd.C_below HR1.out HB.out) | (with_reducible refine Kd.C_alloc ?_ _) | (with_reducible refine Kd.C_drewN ?_ _) | (with_reducible refine Kd.C_drew ?_))); (case side2 => exact HC1.out); rintro e w' ⟨rfl, ⟨nd, rfl⟩⟩; (try first | exact ⟨rfl, _, World.drewN_drewN _ _ _⟩ | exact ⟨rfl, _, Eq.trans (World.drewN_drewN _ _ _) (congrArg (World.drewN _) (Nat.add_assoc _ _ _))⟩)) | (go_at_call 33; (with_reducible refine (laws_at.calls _ _ l1 (wrap64 (a2 + 3)) t353 _ ?side1 ?side2 A16.out).mono ?_); (case side1 => repeat (first | exact (Kd.C_below HR1.out (by repeat (first | (with_reducible first | exact HB.out | apply below_alloc | apply pw_below_drewN | apply below_drew1 | refine below_set ?_ GE350.out) | exact HB.out))) | (with_reducible refine Kd.C_alloc ?_ _) | (with_reducible refine Kd.C_drewN ?_ _) | (with_reducible refine Kd.C_drew ?_))); (case side2 => exact HC1.out); rintro e w' ⟨rfl, ⟨nd, rfl⟩⟩; (try first | exact ⟨rfl, _, World.drewN_drewN _ _ _⟩ | exact ⟨rfl, _, Eq.trans (World.drewN_drewN _ _ _) (congrArg (World.drewN _) (Nat.add_assoc _ _ _))⟩)) | (go_at_call 54; (with_reducible refine (spec_NumWrap.calls (wrap64 (a0_1 + (wrap64 (a0_0 * (wrap64 ((wrap64 (t352)) - 128)))))) t356 _ A22.out).mono ?_); rintro e w' ⟨rfl, ⟨nd, rfl⟩⟩; (try first | exact ⟨rfl, _, World.drewN_drewN _ _ _⟩ | exact ⟨rfl, _, Eq.trans (World.drewN_drewN _ _ _) (congrArg (World.drewN _) (Nat.add_assoc _ _ _))⟩)))
          repeat (go_quiet (first | (go_at_call 33; (with_reducible refine (laws_at.calls _ _ l1 a2 t352 _ ?side1 ?side2 A15.out).mono ?_); (case side1 => repeat (first | exact (Kd.C_below HR1.out HB.out) | (with_reducible refine Kd.C_alloc ?_ _) | (with_reducible refine Kd.C_drewN ?_ _) | (with_reducible refine Kd.C_drew ?_))); (case side2 => exact HC1.out); rintro e w' ⟨rfl, ⟨nd, rfl⟩⟩; (try first | exact ⟨rfl, _, World.drewN_drewN _ _ _⟩ | exact ⟨rfl, _, Eq.trans (World.drewN_drewN _ _ _) (congrArg (World.drewN _) (Nat.add_assoc _ _ _))⟩)) | (go_at_call 33; (with_reducible refine (laws_at.calls _ _ l1 (wrap64 (a2 + 3)) t353 _ ?side1 ?side2 A16.out).mono ?_); (case side1 => repeat (first | exact (Kd.C_below HR1.out (by repeat (first | (with_reducible first | exact HB.out | apply below_alloc | apply pw_below_drewN | apply below_drew1 | refine below_set ?_ GE350.out) | exact HB.out))) | (with_reducible refine Kd.C_alloc ?_ _) | (with_reducible refine Kd.C_drewN ?_ _) | (with_reducible refine Kd.C_drew ?_))); (case side2 => exact HC1.out); rintro e w' ⟨rfl, ⟨nd, rfl⟩⟩; (try first | exact ⟨rfl, _, World.drewN_drewN _ _ _⟩ | exact ⟨rfl, _, Eq.trans (World.drewN_drewN _ _ _) (congrArg (World.drewN _) (Nat.add_assoc _ _ _))⟩)) | (go_at_call 54; (with_reducible refine (spec_NumWrap.calls (wrap64 (a0_1 + (wrap64 (a0_0 * (wrap64 ((wrap64 (t352)) - 128)))))) t356 _ A22.out).mono ?_); rintro e w' ⟨rfl, ⟨nd, rfl⟩⟩; (try first | exact ⟨rfl, _, World.drewN_drewN _ _ _⟩ | exact ⟨rfl, _, Eq.trans (World.drewN_drewN _ _ _) (congrArg (World.drewN _) (Nat.add_assoc _ _ _))⟩))); try go_wp2_with (first | (go_at_call 33; (with_reducible refine (laws_at.calls _ _ l1 a2 t352 _ ?side1 ?side2 A15.out).mono ?_); (case side1 => repeat (first | exact (Kd.C_below HR1.out HB.out) | (with_reducible refine Kd.C_alloc ?_ _) | (with_reducible refine Kd.C_drewN ?_ _) | (with_reducible refine Kd.C_drew ?_))); (case side2 => exact HC1.out); rintro e w' ⟨rfl, ⟨nd, rfl⟩⟩; (try first | exact ⟨rfl, _, World.drewN_drewN _ _ _⟩ | exact ⟨rfl, _, Eq.trans (World.drewN_drewN _ _ _) (congrArg (World.drewN _) (Nat.add_assoc _ _ _))⟩)) | (go_at_call 33; (with_reducible refine (laws_at.calls _ _ l1 (wrap64 (a2 + 3)) t353 _ ?side1 ?side2 A16.out).mono ?_); (case side1 => repeat (first | exact (Kd.C_below HR1.out (by repeat (first | (with_reducible first | exact HB.out | apply below_alloc | apply pw_below_drewN | apply below_drew1 | refine below_set ?_ GE350.out) | exact HB.out))) | (with_reducible refine Kd.C_alloc ?_ _) | (with_reducible refine Kd.C_drewN ?_ _) | (with_reducible refine Kd.C_drew ?_))); (case side2 => exact HC1.out); rintro e w' ⟨rfl, ⟨nd, rfl⟩⟩; (try first | exact ⟨rfl, _, World.drewN_drewN _ _ _⟩ | exact ⟨rfl, _, Eq.trans (World.drewN_drewN _ _ _) (congrArg (World.drewN _) (Nat.add_assoc _ _ _))⟩)) | (go_at_call 54; (with_reducible refine (spec_NumWrap.calls (wrap64 (a0_1 + (wrap64 (a0_0 * (wrap64 ((wrap64 (t352)) - 128)))))) t356 _ A22.out).mono ?_); rintro e w' ⟨rfl, ⟨nd, rfl⟩⟩; (try first | exact ⟨rfl, _, World.drewN_drewN _ _ _⟩ | exact ⟨rfl, _, Eq.trans (World.drewN_drewN _ _ _) (congrArg (World.drewN _) (Nat.add_assoc _ _ _))⟩))))
          go_ret
          exact sqe HB

/-! ### spec_RestHas: function 23 -/
theorem spec_RestHas.mono_l : ∀ k, (∀ y0 y1 y2 y3, LeO (spec_RestHas.j0 k y0 y1 y2 y3) (spec_RestHas.j0 (k + 1) y0 y1 y2 y3))
  | 0 => fun _ _ _ _ r h => by simp [spec_RestHas.j0] at h
  | k + 1 => by
    have ih0 := spec_RestHas.mono_l k
    · intro y0 y1 y2 y3
      unfold spec_RestHas.j0
      repeat' first
      | (with_reducible exact ih0 _ _ _ _)
      | (with_reducible exact LeO.refl _)
      | (with_reducible exact LeO.none _)
      | (with_reducible refine LeO.ite ?_ ?_)
      | (with_reducible refine LeO.bind ?_ (fun _ => ?_))
      | exact ih0 _ _ _ _
      | exact LeO.none _
      | refine LeO.ite ?_ ?_
      | refine LeO.bind ?_ (fun _ => ?_)
theorem spec_RestHas.mono : ∀ a0 a1 a2 k, LeO (spec_RestHas.f k a0 a1 a2) (spec_RestHas.f (k + 1) a0 a1 a2) := by
  intro a0 a1 a2 k
  have ih0 := spec_RestHas.mono_l k
  unfold spec_RestHas.f
  repeat' first
      | (with_reducible exact ih0 _ _ _ _)
      | (with_reducible exact LeO.refl _)
      | (with_reducible exact LeO.none _)
      | (with_reducible refine LeO.ite ?_ ?_)
      | (with_reducible refine LeO.bind ?_ (fun _ => ?_))
      | exact ih0 _ _ _ _
      | exact LeO.none _
      | refine LeO.ite ?_ ?_
      | refine LeO.bind ?_ (fun _ => ?_)
set_option maxHeartbeats 8000000 in
set_option maxRecDepth 100000 in
theorem spec_RestHas.calls (k : Nat) (a0_0 : Int) (a0_1 : Int) (a1 : Int) (r : Bool) (w : World) (h : spec_RestHas.f k a0_0 a0_1 a1 = some r) :
    Calls Try.prog 23 #[.agg #[.int .i64 a0_0, .int .i64 a0_1], .int .i64 a1] w fun e w' => e = .returned (.bool r) ∧ Below w.heap.size w w' := by
  have hu26 := Try.underlying26
  have HB := Aside0.mk (Below.refl w.heap.size w)
  have H : ((spec_RestOk.f a0_0 a0_1).bind fun t358 => (if t358 = true then ((spec_NumOk.f a1).bind fun t359 => (spec_RestHas.j0 k a1 (!t359) a0_0 a0_1)) else (spec_RestHas.j0 k a1 true a0_0 a0_1))) = some r := h
  clear h
  have HC3 := Aside0.mk H
  clear H
  go_enter Try.func23, Try.ntmps23
  go_upto_region 1 with (first | ((with_reducible refine gate_dst (N := 2) rfl ?_); refine sqx 2 #[.int .i64 a0_0, .int .i64 a0_1] 26 ?_; intro gb357 hg w4 hbox hb; have BK357 := Aside0.mk (hbox); have GW357 := sqg HB hg; have GE357 := sqg HB hg; replace HB := sqs HB hb; clear hb hbox hg))
  repeat (go_quiet (first | ((with_reducible refine gate_dst (N := 2) rfl ?_); refine sqx 2 #[.int .i64 a0_0, .int .i64 a0_1] 26 ?_; intro gb357 hg w4 hbox hb; have BK357 := Aside0.mk (hbox); have GW357 := sqg HB hg; have GE357 := sqg HB hg; replace HB := sqs HB hb; clear hb hbox hg)); go_upto_region 1 with (first | ((with_reducible refine gate_dst (N := 2) rfl ?_); refine sqx 2 #[.int .i64 a0_0, .int .i64 a0_1] 26 ?_; intro gb357 hg w4 hbox hb; have BK357 := Aside0.mk (hbox); have GW357 := sqg HB hg; have GE357 := sqg HB hg; replace HB := sqs HB hb; clear hb hbox hg)))
  (try simp only [Act.put, List.setIfInBounds_toArray, List.set_cons_zero, List.set_cons_succ])
  go_cut [12] (fun v12 wc => ∃ (kq : Nat) (x12_2 : Bool), v12 = .bool x12_2 ∧ Aside0 (spec_RestHas.j0 kq a1 x12_2 a0_0 a0_1 = some r) ∧ Aside0 (kq ≤ k) ∧ Aside0 (wc.heap[gb357]? = some (.cells #[.int .i64 a0_0, .int .i64 a0_1] 26 (0, 0))) ∧ Aside0 (Below w.heap.size w wc))
  case first =>
    have H := HC3.out
    clear HC3
    replace H := Option.bind_eq_some_iff.mp H
    obtain ⟨t358, A50, H⟩ := H
    replace H : (if t358 = true then ((spec_NumOk.f a1).bind fun t359 => (spec_RestHas.j0 k a1 (!t359) a0_0 a0_1)) else (spec_RestHas.j0 k a1 true a0_0 a0_1)) = some r := H
    have A5 := Aside0.mk A50
    clear A50
    by_cases c6 : t358 = true
    · subst c6
      have H1 : ((spec_NumOk.f a1).bind fun t359 => (spec_RestHas.j0 k a1 (!t359) a0_0 a0_1)) = some r := by rw [if_pos rfl] at H; exact H
      clear H
      have H := H1
      clear H1
      replace H := Option.bind_eq_some_iff.mp H
      obtain ⟨t359, A70, H⟩ := H
      replace H : (spec_RestHas.j0 k a1 (!t359) a0_0 a0_1) = some r := H
      have A7 := Aside0.mk A70
      clear A70
      have H' := Aside0.mk H
      clear H
      obtain ⟨hcz8_0, hcz8_1, hfz8_0, hfz8_1⟩ := sqc2 BK357
      go_wp2_with (first | (go_at_call 66; (with_reducible refine (spec_RestOk.calls a0_0 a0_1 true _ A5.out).mono ?_); rintro e w9 ⟨rfl, hb⟩; replace BK357 := sqb BK357 hb; replace HB := sqs HB hb; (try clear hb)) | (go_at_call 56; (with_reducible refine (spec_NumOk.calls a1 t359 _ A7.out).mono ?_); rintro e w' ⟨rfl, ⟨nd, rfl⟩⟩; (try first | exact ⟨rfl, _, World.drewN_drewN _ _ _⟩ | exact ⟨rfl, _, Eq.trans (World.drewN_drewN _ _ _) (congrArg (World.drewN _) (Nat.add_assoc _ _ _))⟩)))
      repeat (go_quiet (first | (go_at_call 66; (with_reducible refine (spec_RestOk.calls a0_0 a0_1 true _ A5.out).mono ?_); rintro e w9 ⟨rfl, hb⟩; replace BK357 := sqb BK357 hb; replace HB := sqs HB hb; (try clear hb)) | (go_at_call 56; (with_reducible refine (spec_NumOk.calls a1 t359 _ A7.out).mono ?_); rintro e w' ⟨rfl, ⟨nd, rfl⟩⟩; (try first | exact ⟨rfl, _, World.drewN_drewN _ _ _⟩ | exact ⟨rfl, _, Eq.trans (World.drewN_drewN _ _ _) (congrArg (World.drewN _) (Nat.add_assoc _ _ _))⟩))); try go_wp2_with (first | (go_at_call 66; (with_reducible refine (spec_RestOk.calls a0_0 a0_1 true _ A5.out).mono ?_); rintro e w9 ⟨rfl, hb⟩; replace BK357 := sqb BK357 hb; replace HB := sqs HB hb; (try clear hb)) | (go_at_call 56; (with_reducible refine (spec_NumOk.calls a1 t359 _ A7.out).mono ?_); rintro e w' ⟨rfl, ⟨nd, rfl⟩⟩; (try first | exact ⟨rfl, _, World.drewN_drewN _ _ _⟩ | exact ⟨rfl, _, Eq.trans (World.drewN_drewN _ _ _) (congrArg (World.drewN _) (Nat.add_assoc _ _ _))⟩))))
      go_meet
      case rel => exact ⟨_, (!t359), (by first | rfl | (simp; done) | (simp [*]; done)), H', ⟨by first | omega | exact Nat.le_refl _⟩, sqk BK357, sqh HB⟩
    · replace c6 := Bool.eq_false_iff.mpr c6
      subst c6
      have H1 : (spec_RestHas.j0 k a1 true a0_0 a0_1) = some r := by rw [if_neg (show ¬ (false = true) by decide)] at H; exact H
      clear H
      have H := H1
      clear H1
      have H' := Aside0.mk H
      clear H
      obtain ⟨hcz10_0, hcz10_1, hfz10_0, hfz10_1⟩ := sqc2 BK357
      go_wp2_with (first | (go_at_call 66; (with_reducible refine (spec_RestOk.calls a0_0 a0_1 false _ A5.out).mono ?_); rintro e w11 ⟨rfl, hb⟩; replace BK357 := sqb BK357 hb; replace HB := sqs HB hb; (try clear hb)))
      repeat (go_quiet (first | (go_at_call 66; (with_reducible refine (spec_RestOk.calls a0_0 a0_1 false _ A5.out).mono ?_); rintro e w11 ⟨rfl, hb⟩; replace BK357 := sqb BK357 hb; replace HB := sqs HB hb; (try clear hb))); try go_wp2_with (first | (go_at_call 66; (with_reducible refine (spec_RestOk.calls a0_0 a0_1 false _ A5.out).mono ?_); rintro e w11 ⟨rfl, hb⟩; replace BK357 := sqb BK357 hb; replace HB := sqs HB hb; (try clear hb))))
      go_meet
      case rel => exact ⟨_, (true), (by first | rfl | (simp; done) | (simp [*]; done)), H', ⟨by first | omega | exact Nat.le_refl _⟩, sqk BK357, sqh HB⟩
  case rest =>
    clear HC3
    obtain ⟨kq, x12_2, rfl, HA, HJ2, BK357, HB⟩ := hcut
    cases kq with
    | zero => exact absurd HA.out (by simp [spec_RestHas.j0])
    | succ kj2 =>
      have H := HA.out
      clear HA
      simp only [spec_RestHas.j0] at H
      by_cases c12 : x12_2 = true
      · subst c12
        have H1 : (some false) = some r := by rw [if_pos rfl] at H; exact H
        clear H
        have H := H1
        clear H1
        obtain rfl := Option.some.inj H
        go_wp2
        repeat (go_quiet (fail); try go_wp2)
        go_ret
        exact sqe HB
      · replace c12 := Bool.eq_false_iff.mpr c12
        subst c12
        have H1 : (if a0_0 = 0 then (some (a1 == a0_1)) else ((spec_l1Mod.f a1 a0_0).bind fun t360 => (some (t360 == a0_1)))) = some r := by rw [if_neg (show ¬ (false = true) by decide)] at H; exact H
        clear H
        have H := H1
        clear H1
        by_cases c13 : a0_0 = 0
        · rw [if_pos c13] at H
          have c13b0 : (a0_0 == 0) = true := beq_iff_eq.mpr c13
          have c13b1 : (a0_0 != 0) = false := bne_eq_false_iff_eq.mpr c13
          clear c13
          obtain rfl := Option.some.inj H
          obtain ⟨hcz14_0, hcz14_1, hfz14_0, hfz14_1⟩ := sqc2 BK357
          go_wp2
          repeat (go_quiet (fail); try go_wp2)
          go_ret
          exact sqe HB
        · rw [if_neg c13] at H
          have c13b0 : (a0_0 == 0) = false := beq_eq_false_iff_ne.mpr c13
          have c13b1 : (a0_0 != 0) = true := bne_iff_ne.mpr c13
          replace H := Option.bind_eq_some_iff.mp H
          obtain ⟨t360, A150, H⟩ := H
          replace H : (some (t360 == a0_1)) = some r := H
          have A15 := Aside0.mk A150
          clear A150
          obtain rfl := Option.some.inj H
          obtain ⟨hcz16_0, hcz16_1, hfz16_0, hfz16_1⟩ := sqc2 BK357
          go_wp2_with (first | (go_at_call 102; (with_reducible refine (spec_l1Mod.calls a1 a0_0 t360 _ A15.out).mono ?_); rintro e w' ⟨rfl, ⟨nd, rfl⟩⟩; (try first | exact ⟨rfl, _, World.drewN_drewN _ _ _⟩ | exact ⟨rfl, _, Eq.trans (World.drewN_drewN _ _ _) (congrArg (World.drewN _) (Nat.add_assoc _ _ _))⟩)))
          repeat (go_quiet (first | (go_at_call 102; (with_reducible refine (spec_l1Mod.calls a1 a0_0 t360 _ A15.out).mono ?_); rintro e w' ⟨rfl, ⟨nd, rfl⟩⟩; (try first | exact ⟨rfl, _, World.drewN_drewN _ _ _⟩ | exact ⟨rfl, _, Eq.trans (World.drewN_drewN _ _ _) (congrArg (World.drewN _) (Nat.add_assoc _ _ _))⟩))); try go_wp2_with (first | (go_at_call 102; (with_reducible refine (spec_l1Mod.calls a1 a0_0 t360 _ A15.out).mono ?_); rintro e w' ⟨rfl, ⟨nd, rfl⟩⟩; (try first | exact ⟨rfl, _, World.drewN_drewN _ _ _⟩ | exact ⟨rfl, _, Eq.trans (World.drewN_drewN _ _ _) (congrArg (World.drewN _) (Nat.add_assoc _ _ _))⟩))))
          go_ret
          exact sqe HB

end Go.Proofs.Ytkekcenlleebeaa.PFnValMake
