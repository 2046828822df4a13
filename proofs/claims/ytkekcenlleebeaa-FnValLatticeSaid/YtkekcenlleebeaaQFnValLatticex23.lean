/- Functions of the program as plain Lean functions, and that calls of them come to what these tell. Conditions: those in each law. -/
import Derived.Test.YtkekcenlleebeaaSq
import Derived.Test.YtkekcenlleebeaaDFnValLattice
import Derived.Test.YtkekcenlleebeaaQFnValLatticex0
import Derived.Test.YtkekcenlleebeaaQFnValLatticex5
import Derived.Test.YtkekcenlleebeaaQFnValLatticex20
namespace Go.Proofs.Ytkekcenlleebeaa.PFnValLattice
open Go.RowKit Go.Proofs.Ytkekcenlleebeaa.Sq Go.Proofs.YtkekcenlleebeaaW.PrintWords Go.Proofs.YtkekcenlleebeaaW.PrintLast Go.Proofs.YtkekcenlleebeaaW.PrintMore
attribute [local go_sem] max2_int min2_int max_two min_two max_three min_three max_four min_four   -- for this text's walks alone
set_option linter.unusedVariables false
set_option linter.unusedSimpArgs false

/-! ### impl_RestMeet: function 186 -/
set_option maxHeartbeats 8000000 in
set_option maxRecDepth 100000 in
theorem impl_RestMeet.calls (k : Nat) (a0_0 : Int) (a0_1 : Int) (a1_0 : Int) (a1_1 : Int) (r1 : Int) (r2 : Int) (r3 : Bool) (w : World) (h : impl_RestMeet.f k a0_0 a0_1 a1_0 a1_1 = some (r1, r2, r3)) :
  Calls Try.prog 186 #[.agg #[.int .i64 a0_0, .int .i64 a0_1], .agg #[.int .i64 a1_0, .int .i64 a1_1]] w fun e w' => e = .returned (.tuple #[.agg #[.int .i64 r1, .int .i64 r2], .bool r3]) ∧ Below w.heap.size w w' := by
 have hu26 := Try.underlying26
 have HB := Aside0.mk (Below.refl w.heap.size w)
 have H := h
 unfold impl_RestMeet.f at H
 clear h
 have HC3 := Aside0.mk H
 clear H
 go_enter Try.func186, Try.ntmps186
 go_upto_region 1 with (first | ((with_reducible refine gate_dst (N := 2) rfl ?_); refine sqx 2 #[.int .i64 a0_0, .int .i64 a0_1] 26 ?_; intro gb575 hg w4 hbox hb; have BK575 := Aside0.mk hbox; have GW575 := sqg HB hg; replace HB := sqs HB hb; clear hb hbox hg) | ((with_reducible refine gate_dst (N := 3) rfl ?_); refine sqx 3 #[.int .i64 a1_0, .int .i64 a1_1] 26 ?_; intro gb576 hg w5 hbox hb; have BK576 := Aside0.mk hbox; have GW576 := sqg HB hg; have NB575_576 := sqn BK575 hg; have NB576_575 := sqm BK575 hg; replace BK575 := sqb BK575 hb; replace HB := sqs HB hb; clear hb hbox hg) | ((with_reducible refine gate_dst (N := 4) rfl ?_); refine sqx 4 #[.int .i64 0, .int .i64 0] 26 ?_; intro gb577 hg w6 hbox hb; have BK577 := Aside0.mk hbox; have GW577 := sqg HB hg; have NB575_577 := sqn BK575 hg; have NB577_575 := sqm BK575 hg; have NB576_577 := sqn BK576 hg; have NB577_576 := sqm BK576 hg; refine sqM2 BK575 BK576 hb ?_; clear BK575 BK576; intro BK575 BK576; replace HB := sqs HB hb; clear hb hbox hg))
 repeat (go_quiet (first | ((with_reducible refine gate_dst (N := 2) rfl ?_); refine sqx 2 #[.int .i64 a0_0, .int .i64 a0_1] 26 ?_; intro gb575 hg w4 hbox hb; have BK575 := Aside0.mk hbox; have GW575 := sqg HB hg; replace HB := sqs HB hb; clear hb hbox hg) | ((with_reducible refine gate_dst (N := 3) rfl ?_); refine sqx 3 #[.int .i64 a1_0, .int .i64 a1_1] 26 ?_; intro gb576 hg w5 hbox hb; have BK576 := Aside0.mk hbox; have GW576 := sqg HB hg; have NB575_576 := sqn BK575 hg; have NB576_575 := sqm BK575 hg; replace BK575 := sqb BK575 hb; replace HB := sqs HB hb; clear hb hbox hg) | ((with_reducible refine gate_dst (N := 4) rfl ?_); refine sqx 4 #[.int .i64 0, .int .i64 0] 26 ?_; intro gb577 hg w6 hbox hb; have BK577 := Aside0.mk hbox; have GW577 := sqg HB hg; have NB575_577 := sqn BK575 hg; have NB577_575 := sqm BK575 hg; have NB576_577 := sqn BK576 hg; have NB577_576 := sqm BK576 hg; refine sqM2 BK575 BK576 hb ?_; clear BK575 BK576; intro BK575 BK576; replace HB := sqs HB hb; clear hb hbox hg)); go_upto_region 1 with (first | ((with_reducible refine gate_dst (N := 2) rfl ?_); refine sqx 2 #[.int .i64 a0_0, .int .i64 a0_1] 26 ?_; intro gb575 hg w4 hbox hb; have BK575 := Aside0.mk hbox; have GW575 := sqg HB hg; replace HB := sqs HB hb; clear hb hbox hg) | ((with_reducible refine gate_dst (N := 3) rfl ?_); refine sqx 3 #[.int .i64 a1_0, .int .i64 a1_1] 26 ?_; intro gb576 hg w5 hbox hb; have BK576 := Aside0.mk hbox; have GW576 := sqg HB hg; have NB575_576 := sqn BK575 hg; have NB576_575 := sqm BK575 hg; replace BK575 := sqb BK575 hb; replace HB := sqs HB hb; clear hb hbox hg) | ((with_reducible refine gate_dst (N := 4) rfl ?_); refine sqx 4 #[.int .i64 0, .int .i64 0] 26 ?_; intro gb577 hg w6 hbox hb; have BK577 := Aside0.mk hbox; have GW577 := sqg HB hg; have NB575_577 := sqn BK575 hg; have NB577_575 := sqm BK575 hg; have NB576_577 := sqn BK576 hg; have NB577_576 := sqm BK576 hg; refine sqM2 BK575 BK576 hb ?_; clear BK575 BK576; intro BK575 BK576; replace HB := sqs HB hb; clear hb hbox hg)))
 (try simp only [Act.put, List.setIfInBounds_toArray, List.set_cons_zero, List.set_cons_succ])
 go_cut [16] (fun v16 wc => ∃ (kq : Nat) (x16_2 : Bool), v16 = .bool x16_2 ∧ Aside0 (impl_RestMeet.j0 kq x16_2 a0_0 a0_1 a1_0 a1_1 = some (r1, r2, r3)) ∧ Aside0 (kq ≤ k) ∧ Aside0 (wc.heap[gb575]? = some (.cells #[.int .i64 a0_0, .int .i64 a0_1] 26 (0, 0))) ∧ Aside0 (wc.heap[gb576]? = some (.cells #[.int .i64 a1_0, .int .i64 a1_1] 26 (0, 0))) ∧ Aside0 (wc.heap[gb577]? = some (.cells #[.int .i64 0, .int .i64 0] 26 (0, 0))) ∧ Aside0 (Below w.heap.size w wc))
 case first =>
  have H := HC3.out
  clear HC3
  replace H := sqbi H
  obtain ⟨t578, A7, H⟩ := H
  try dsimp only at H
  rcases sqI (t578 = true) with c8 | c8
  ·replace c8 := Bool.eq_false_iff.mpr c8
   subst c8
   have H1 : (impl_RestMeet.j0 k true a0_0 a0_1 a1_0 a1_1) = some (r1, r2, r3) := by rw [if_neg (show ¬ (false = true) by decide)] at H; exact H
   clear H
   have H := H1
   clear H1
   have H' := Aside0.mk H
   clear H
   obtain ⟨hnb17, hnc17, hnb18, hnc18⟩ := sqN2 NB575_576 NB575_577
   obtain ⟨hcz19_0, hcz19_1, hfz19_0, hfz19_1⟩ := sqc2 BK575
   go_wp2_with (first | (go_at_call 65; (with_reducible refine (impl_RestOk.calls a0_0 a0_1 false _ A7.out).mono ?_); rintro e w20 ⟨rfl, hb⟩; refine sqM3 BK575 BK576 BK577 hb ?_; clear BK575 BK576 BK577; intro BK575 BK576 BK577; replace HB := sqs HB hb; (try clear hb)))
   repeat (go_quiet (first | (go_at_call 65; (with_reducible refine (impl_RestOk.calls a0_0 a0_1 false _ A7.out).mono ?_); rintro e w20 ⟨rfl, hb⟩; refine sqM3 BK575 BK576 BK577 hb ?_; clear BK575 BK576 BK577; intro BK575 BK576 BK577; replace HB := sqs HB hb; (try clear hb))); try go_wp2_with (first | (go_at_call 65; (with_reducible refine (impl_RestOk.calls a0_0 a0_1 false _ A7.out).mono ?_); rintro e w20 ⟨rfl, hb⟩; refine sqM3 BK575 BK576 BK577 hb ?_; clear BK575 BK576 BK577; intro BK575 BK576 BK577; replace HB := sqs HB hb; (try clear hb))))
   go_meet
   case rel => exact ⟨_, (true), (by first | rfl | (simp; done) | (simp [*]; done)), H', ⟨by first | omega | exact Nat.le_refl _⟩, sqk BK575, sqk BK576, sqk BK577, sqh HB⟩
  subst c8
  have H1 : ((impl_RestOk.f a1_0 a1_1).bind fun t579 => (impl_RestMeet.j0 k (!t579) a0_0 a0_1 a1_0 a1_1)) = some (r1, r2, r3) := by rw [if_pos rfl] at H; exact H
  clear H
  have H := H1
  clear H1
  replace H := sqbi H
  obtain ⟨t579, A9, H⟩ := H
  try dsimp only at H
  have H' := Aside0.mk H
  clear H
  obtain ⟨hnb10, hnc10, hnb11, hnc11⟩ := sqN2 NB575_576 NB575_577
  obtain ⟨hcz12_0, hcz12_1, hfz12_0, hfz12_1⟩ := sqc2 BK575
  go_wp2_with (first | (go_at_call 65; (with_reducible refine (impl_RestOk.calls a0_0 a0_1 true _ A7.out).mono ?_); rintro e w13 ⟨rfl, hb⟩; refine sqM3 BK575 BK576 BK577 hb ?_; clear BK575 BK576 BK577; intro BK575 BK576 BK577; replace HB := sqs HB hb; (try clear hb); obtain ⟨hnb14, hnc14⟩ := sqN1 NB576_577; obtain ⟨hcz15_0, hcz15_1, hfz15_0, hfz15_1⟩ := sqc2 BK576) | (go_at_call 65; (with_reducible refine (impl_RestOk.calls a1_0 a1_1 t579 _ A9.out).mono ?_); rintro e w16 ⟨rfl, hb⟩; refine sqM3 BK575 BK576 BK577 hb ?_; clear BK575 BK576 BK577; intro BK575 BK576 BK577; replace HB := sqs HB hb; (try clear hb)))
  repeat (go_quiet (first | (go_at_call 65; (with_reducible refine (impl_RestOk.calls a0_0 a0_1 true _ A7.out).mono ?_); rintro e w13 ⟨rfl, hb⟩; refine sqM3 BK575 BK576 BK577 hb ?_; clear BK575 BK576 BK577; intro BK575 BK576 BK577; replace HB := sqs HB hb; (try clear hb); obtain ⟨hnb14, hnc14⟩ := sqN1 NB576_577; obtain ⟨hcz15_0, hcz15_1, hfz15_0, hfz15_1⟩ := sqc2 BK576) | (go_at_call 65; (with_reducible refine (impl_RestOk.calls a1_0 a1_1 t579 _ A9.out).mono ?_); rintro e w16 ⟨rfl, hb⟩; refine sqM3 BK575 BK576 BK577 hb ?_; clear BK575 BK576 BK577; intro BK575 BK576 BK577; replace HB := sqs HB hb; (try clear hb))); try go_wp2_with (first | (go_at_call 65; (with_reducible refine (impl_RestOk.calls a0_0 a0_1 true _ A7.out).mono ?_); rintro e w13 ⟨rfl, hb⟩; refine sqM3 BK575 BK576 BK577 hb ?_; clear BK575 BK576 BK577; intro BK575 BK576 BK577; replace HB := sqs HB hb; (try clear hb); obtain ⟨hnb14, hnc14⟩ := sqN1 NB576_577; obtain ⟨hcz15_0, hcz15_1, hfz15_0, hfz15_1⟩ := sqc2 BK576) | (go_at_call 65; (with_reducible refine (impl_RestOk.calls a1_0 a1_1 t579 _ A9.out).mono ?_); rintro e w16 ⟨rfl, hb⟩; refine sqM3 BK575 BK576 BK577 hb ?_; clear BK575 BK576 BK577; intro BK575 BK576 BK577; replace HB := sqs HB hb; (try clear hb))))
  go_meet
  case rel => exact ⟨_, (!t579), (by first | rfl | (simp; done) | (simp [*]; done)), H', ⟨by first | omega | exact Nat.le_refl _⟩, sqk BK575, sqk BK576, sqk BK577, sqh HB⟩
 case rest =>
  clear HC3
  obtain ⟨kq, x16_2, rfl, HA, HJ2, BK575, BK576, BK577, HB⟩ := hcut
  cases kq with
  | zero => exact absurd HA.out (by simp [impl_RestMeet.j0])
  | succ kj2 =>
   have H := HA.out
   clear HA
   simp only [impl_RestMeet.j0] at H
   by_cases c21 : x16_2 = true
   ·subst c21
    have H1 : (some (0, 0, false)) = some (r1, r2, r3) := by rw [if_pos rfl] at H; exact H
    clear H
    have H := H1
    clear H1
    simp only [Option.some.injEq, Prod.mk.injEq] at H
    obtain ⟨rfl, rfl, rfl⟩ := H
    obtain ⟨hnb22, hnc22, hnb23, hnc23⟩ := sqN2 NB577_575 NB577_576
    obtain ⟨hcz24_0, hcz24_1, hfz24_0, hfz24_1⟩ := sqc2 BK577
    go_wp2
    repeat (go_quiet (fail); try go_wp2)
    refine bodyPost_ret (results_ct rfl _ _ gb577 26 #[.int .i64 0, .int .i64 0] (0, 0) _ rfl (sqP BK577) Try.underlying26 rfl (by kernel_rfl)) rfl ?_
    exact sqe HB
   replace c21 := Bool.eq_false_iff.mpr c21
   subst c21
   have H1 : (if a0_0 = 0 then ((impl_RestHas.f kj2 a1_0 a1_1 a0_1).bind fun t580 => (if t580 = true then (some (a0_0, a0_1, true)) else (some (0, 0, false)))) else (if a1_0 = 0 then ((impl_RestHas.f kj2 a0_0 a0_1 a1_1).bind fun t581 => (if t581 = true then (some (a1_0, a1_1, true)) else (some (0, 0, false)))) else ((impl_restGcd.f kj2 (([a0_0, a1_0] : List Int))).bind fun t585 => (if t585 = 0 then (none) else (if (Int.tmod (wrap64 (a0_1 - a1_1)) t585) = 0 then (if a1_0 > a0_0 then (impl_RestMeet.j1 kj2 t585 a1_0 a1_1 a0_0 a0_1) else (impl_RestMeet.j1 kj2 t585 a0_0 a0_1 a1_0 a1_1)) else (some (0, 0, false))))))) = some (r1, r2, r3) := by rw [if_neg (show ¬ (false = true) by decide)] at H; exact H
   clear H
   have H := H1
   clear H1
   replace H := sqj H
   rcases H with ⟨c25, H⟩ | ⟨c25, H⟩
   ·have c25b0 : (a0_0 == 0) = true := beq_iff_eq.mpr c25
    have c25b1 : (a0_0 != 0) = false := bne_eq_false_iff_eq.mpr c25
    clear c25
    replace H := sqbi H
    obtain ⟨t580, A26, H⟩ := H
    try dsimp only at H
    rcases sqI (t580 = true) with c27 | c27
    ·replace c27 := Bool.eq_false_iff.mpr c27
     subst c27
     have H1 : (some (0, 0, false)) = some (r1, r2, r3) := by rw [if_neg (show ¬ (false = true) by decide)] at H; exact H
     clear H
     have H := H1
     clear H1
     simp only [Option.some.injEq, Prod.mk.injEq] at H
     obtain ⟨rfl, rfl, rfl⟩ := H
     obtain ⟨hnb36, hnc36, hnb37, hnc37⟩ := sqN2 NB575_576 NB575_577
     obtain ⟨hcz38_0, hcz38_1, hfz38_0, hfz38_1⟩ := sqc2 BK575
     obtain ⟨hnb39, hnc39⟩ := sqN1 NB576_577
     obtain ⟨hcz40_0, hcz40_1, hfz40_0, hfz40_1⟩ := sqc2 BK576
     go_wp2_with (first | (go_at_call 68; (with_reducible refine (impl_RestHas.calls kj2 a1_0 a1_1 a0_1 false _ A26.out).mono ?_); rintro e w41 ⟨rfl, hb⟩; refine sqM3 BK575 BK576 BK577 hb ?_; clear BK575 BK576 BK577; intro BK575 BK576 BK577; replace HB := sqs HB hb; (try clear hb); obtain ⟨hcz42_0, hcz42_1, hfz42_0, hfz42_1⟩ := sqc2 BK577))
     repeat (go_quiet (first | (go_at_call 68; (with_reducible refine (impl_RestHas.calls kj2 a1_0 a1_1 a0_1 false _ A26.out).mono ?_); rintro e w41 ⟨rfl, hb⟩; refine sqM3 BK575 BK576 BK577 hb ?_; clear BK575 BK576 BK577; intro BK575 BK576 BK577; replace HB := sqs HB hb; (try clear hb); obtain ⟨hcz42_0, hcz42_1, hfz42_0, hfz42_1⟩ := sqc2 BK577)); try go_wp2_with (first | (go_at_call 68; (with_reducible refine (impl_RestHas.calls kj2 a1_0 a1_1 a0_1 false _ A26.out).mono ?_); rintro e w41 ⟨rfl, hb⟩; refine sqM3 BK575 BK576 BK577 hb ?_; clear BK575 BK576 BK577; intro BK575 BK576 BK577; replace HB := sqs HB hb; (try clear hb); obtain ⟨hcz42_0, hcz42_1, hfz42_0, hfz42_1⟩ := sqc2 BK577)))
     refine bodyPost_ret (results_ct rfl _ _ gb577 26 #[.int .i64 0, .int .i64 0] (0, 0) _ rfl (sqP BK577) Try.underlying26 rfl (by kernel_rfl)) rfl ?_
     exact sqe HB
    subst c27
    have H1 : (some (a0_0, a0_1, true)) = some (r1, r2, r3) := by rw [if_pos rfl] at H; exact H
    clear H
    have H := H1
    clear H1
    simp only [Option.some.injEq, Prod.mk.injEq] at H
    obtain ⟨rfl, rfl, rfl⟩ := H
    obtain ⟨hnb28, hnc28, hnb29, hnc29⟩ := sqN2 NB575_576 NB575_577
    obtain ⟨hcz30_0, hcz30_1, hfz30_0, hfz30_1⟩ := sqc2 BK575
    obtain ⟨hnb31, hnc31⟩ := sqN1 NB576_577
    obtain ⟨hcz32_0, hcz32_1, hfz32_0, hfz32_1⟩ := sqc2 BK576
    go_wp2_with (first | (go_at_call 68; (with_reducible refine (impl_RestHas.calls kj2 a1_0 a1_1 a0_1 true _ A26.out).mono ?_); rintro e w33 ⟨rfl, hb⟩; refine sqM3 BK575 BK576 BK577 hb ?_; clear BK575 BK576 BK577; intro BK575 BK576 BK577; replace HB := sqs HB hb; (try clear hb); obtain ⟨hcz34_0, hcz34_1, hfz34_0, hfz34_1⟩ := sqc2 BK575; obtain ⟨hcz35_0, hcz35_1, hfz35_0, hfz35_1⟩ := sqc2 BK577))
    repeat (go_quiet (first | (go_at_call 68; (with_reducible refine (impl_RestHas.calls kj2 a1_0 a1_1 a0_1 true _ A26.out).mono ?_); rintro e w33 ⟨rfl, hb⟩; refine sqM3 BK575 BK576 BK577 hb ?_; clear BK575 BK576 BK577; intro BK575 BK576 BK577; replace HB := sqs HB hb; (try clear hb); obtain ⟨hcz34_0, hcz34_1, hfz34_0, hfz34_1⟩ := sqc2 BK575; obtain ⟨hcz35_0, hcz35_1, hfz35_0, hfz35_1⟩ := sqc2 BK577)); try go_wp2_with (first | (go_at_call 68; (with_reducible refine (impl_RestHas.calls kj2 a1_0 a1_1 a0_1 true _ A26.out).mono ?_); rintro e w33 ⟨rfl, hb⟩; refine sqM3 BK575 BK576 BK577 hb ?_; clear BK575 BK576 BK577; intro BK575 BK576 BK577; replace HB := sqs HB hb; (try clear hb); obtain ⟨hcz34_0, hcz34_1, hfz34_0, hfz34_1⟩ := sqc2 BK575; obtain ⟨hcz35_0, hcz35_1, hfz35_0, hfz35_1⟩ := sqc2 BK577)))
    refine bodyPost_ret (results_ct rfl _ _ gb577 26 #[.int .i64 a0_0, .int .i64 a0_1] (0, 0) _ rfl (sqP BK577) Try.underlying26 rfl (by kernel_rfl)) rfl ?_
    exact sqe HB
   have c25b0 : (a0_0 == 0) = false := beq_eq_false_iff_ne.mpr c25
   have c25b1 : (a0_0 != 0) = true := bne_iff_ne.mpr c25
   replace H := sqj H
   rcases H with ⟨c43, H⟩ | ⟨c43, H⟩
   ·have c43b0 : (a1_0 == 0) = true := beq_iff_eq.mpr c43
    have c43b1 : (a1_0 != 0) = false := bne_eq_false_iff_eq.mpr c43
    clear c43
    replace H := sqbi H
    obtain ⟨t581, A44, H⟩ := H
    try dsimp only at H
    rcases sqI (t581 = true) with c45 | c45
    ·replace c45 := Bool.eq_false_iff.mpr c45
     subst c45
     have H1 : (some (0, 0, false)) = some (r1, r2, r3) := by rw [if_neg (show ¬ (false = true) by decide)] at H; exact H
     clear H
     have H := H1
     clear H1
     simp only [Option.some.injEq, Prod.mk.injEq] at H
     obtain ⟨rfl, rfl, rfl⟩ := H
     obtain ⟨hnb54, hnc54, hnb55, hnc55⟩ := sqN2 NB575_576 NB575_577
     obtain ⟨hcz56_0, hcz56_1, hfz56_0, hfz56_1⟩ := sqc2 BK575
     obtain ⟨hnb57, hnc57⟩ := sqN1 NB576_577
     obtain ⟨hcz58_0, hcz58_1, hfz58_0, hfz58_1⟩ := sqc2 BK576
     go_wp2_with (first | (go_at_call 68; (with_reducible refine (impl_RestHas.calls kj2 a0_0 a0_1 a1_1 false _ A44.out).mono ?_); rintro e w59 ⟨rfl, hb⟩; refine sqM3 BK575 BK576 BK577 hb ?_; clear BK575 BK576 BK577; intro BK575 BK576 BK577; replace HB := sqs HB hb; (try clear hb); obtain ⟨hcz60_0, hcz60_1, hfz60_0, hfz60_1⟩ := sqc2 BK577))
     repeat (go_quiet (first | (go_at_call 68; (with_reducible refine (impl_RestHas.calls kj2 a0_0 a0_1 a1_1 false _ A44.out).mono ?_); rintro e w59 ⟨rfl, hb⟩; refine sqM3 BK575 BK576 BK577 hb ?_; clear BK575 BK576 BK577; intro BK575 BK576 BK577; replace HB := sqs HB hb; (try clear hb); obtain ⟨hcz60_0, hcz60_1, hfz60_0, hfz60_1⟩ := sqc2 BK577)); try go_wp2_with (first | (go_at_call 68; (with_reducible refine (impl_RestHas.calls kj2 a0_0 a0_1 a1_1 false _ A44.out).mono ?_); rintro e w59 ⟨rfl, hb⟩; refine sqM3 BK575 BK576 BK577 hb ?_; clear BK575 BK576 BK577; intro BK575 BK576 BK577; replace HB := sqs HB hb; (try clear hb); obtain ⟨hcz60_0, hcz60_1, hfz60_0, hfz60_1⟩ := sqc2 BK577)))
     refine bodyPost_ret (results_ct rfl _ _ gb577 26 #[.int .i64 0, .int .i64 0] (0, 0) _ rfl (sqP BK577) Try.underlying26 rfl (by kernel_rfl)) rfl ?_
     exact sqe HB
    subst c45
    have H1 : (some (a1_0, a1_1, true)) = some (r1, r2, r3) := by rw [if_pos rfl] at H; exact H
    clear H
    have H := H1
    clear H1
    simp only [Option.some.injEq, Prod.mk.injEq] at H
    obtain ⟨rfl, rfl, rfl⟩ := H
    obtain ⟨hnb46, hnc46, hnb47, hnc47⟩ := sqN2 NB575_576 NB575_577
    obtain ⟨hcz48_0, hcz48_1, hfz48_0, hfz48_1⟩ := sqc2 BK575
    obtain ⟨hnb49, hnc49⟩ := sqN1 NB576_577
    obtain ⟨hcz50_0, hcz50_1, hfz50_0, hfz50_1⟩ := sqc2 BK576
    go_wp2_with (first | (go_at_call 68; (with_reducible refine (impl_RestHas.calls kj2 a0_0 a0_1 a1_1 true _ A44.out).mono ?_); rintro e w51 ⟨rfl, hb⟩; refine sqM3 BK575 BK576 BK577 hb ?_; clear BK575 BK576 BK577; intro BK575 BK576 BK577; replace HB := sqs HB hb; (try clear hb); obtain ⟨hcz52_0, hcz52_1, hfz52_0, hfz52_1⟩ := sqc2 BK576; obtain ⟨hcz53_0, hcz53_1, hfz53_0, hfz53_1⟩ := sqc2 BK577))
    repeat (go_quiet (first | (go_at_call 68; (with_reducible refine (impl_RestHas.calls kj2 a0_0 a0_1 a1_1 true _ A44.out).mono ?_); rintro e w51 ⟨rfl, hb⟩; refine sqM3 BK575 BK576 BK577 hb ?_; clear BK575 BK576 BK577; intro BK575 BK576 BK577; replace HB := sqs HB hb; (try clear hb); obtain ⟨hcz52_0, hcz52_1, hfz52_0, hfz52_1⟩ := sqc2 BK576; obtain ⟨hcz53_0, hcz53_1, hfz53_0, hfz53_1⟩ := sqc2 BK577)); try go_wp2_with (first | (go_at_call 68; (with_reducible refine (impl_RestHas.calls kj2 a0_0 a0_1 a1_1 true _ A44.out).mono ?_); rintro e w51 ⟨rfl, hb⟩; refine sqM3 BK575 BK576 BK577 hb ?_; clear BK575 BK576 BK577; intro BK575 BK576 BK577; replace HB := sqs HB hb; (try clear hb); obtain ⟨hcz52_0, hcz52_1, hfz52_0, hfz52_1⟩ := sqc2 BK576; obtain ⟨hcz53_0, hcz53_1, hfz53_0, hfz53_1⟩ := sqc2 BK577)))
    refine bodyPost_ret (results_ct rfl _ _ gb577 26 #[.int .i64 a1_0, .int .i64 a1_1] (0, 0) _ rfl (sqP BK577) Try.underlying26 rfl (by kernel_rfl)) rfl ?_
    exact sqe HB
   have c43b0 : (a1_0 == 0) = false := beq_eq_false_iff_ne.mpr c43
   have c43b1 : (a1_0 != 0) = true := bne_iff_ne.mpr c43
   obtain ⟨y582, hy582⟩ : ∃ y_ : List Int, y_ = (([a0_0, a1_0] : List Int)) := ⟨_, rfl⟩
   replace H : ((impl_restGcd.f kj2 y582).bind fun t585 => (if t585 = 0 then (none) else (if (Int.tmod (wrap64 (a0_1 - a1_1)) t585) = 0 then (if a1_0 > a0_0 then (impl_RestMeet.j1 kj2 t585 a1_0 a1_1 a0_0 a0_1) else (impl_RestMeet.j1 kj2 t585 a0_0 a0_1 a1_0 a1_1)) else (some (0, 0, false))))) = some (r1, r2, r3) := by first | (rw [hy582]; with_reducible exact H) | (have H2_ := (Option.bind_some _ _).symm.trans H; rw [hy582]; with_reducible exact H2_) | (have H2_ := (Option.bind_some _ _).symm.trans H; with_reducible exact H2_) | with_reducible exact H | (rw [hy582]; exact H) | exact H
   have Ny582 := Aside0.mk hy582
   clear hy582
   replace H := sqbi H
   obtain ⟨t585, A61, H⟩ := H
   try dsimp only at H
   replace H := sqj H
   rcases H with ⟨c62, H⟩ | ⟨c62, H⟩
   ·exact absurd H (by simp)
   have c62b0 : (t585 == 0) = false := beq_eq_false_iff_ne.mpr c62
   have c62b1 : (t585 != 0) = true := bne_iff_ne.mpr c62
   replace H := sqi H
   rcases H with ⟨c63, H⟩ | ⟨c63, H⟩
   ·have c63b0 : ((Int.tmod (wrap64 (a0_1 - a1_1)) t585) == 0) = false := beq_eq_false_iff_ne.mpr c63
    have c63b1 : ((Int.tmod (wrap64 (a0_1 - a1_1)) t585) != 0) = true := bne_iff_ne.mpr c63
    simp only [Option.some.injEq, Prod.mk.injEq] at H
    obtain ⟨rfl, rfl, rfl⟩ := H
    obtain ⟨hnb106, hnc106, hnb107, hnc107⟩ := sqN2 NB575_576 NB575_577
    obtain ⟨hcz108_0, hcz108_1, hfz108_0, hfz108_1⟩ := sqc2 BK575
    obtain ⟨hnb109, hnc109⟩ := sqN1 NB576_577
    obtain ⟨hcz110_0, hcz110_1, hfz110_0, hfz110_1⟩ := sqc2 BK576
    go_wp2_with (first | ((with_reducible refine gate_dst (N := 40) rfl ?_); refine Kd.R_lit (Kd.int .i64) _ 3 ?hg (N := 40) ?hd (xs := ([a0_0, a1_0] : List Int)) (inner := [.int .i64 a0_0, .int .i64 a1_0]) (ok := fun _ => True) (okp := fun _ => True) ?hr ?hp (fun _ hk => hk) trivial (Below.refl _ _) (Nat.le_refl _) (by simp) ?_; (case hd => rfl); (case hg => rfl); (case hr => first | (go_simp; done) | (go_simp; rfl)); (case hp => exact (Reps.one (show Kd.M (Kd.int .i64) _ _ _ a0_0 [.int .i64 a0_0] from rfl) (Reps.one (show Kd.M (Kd.int .i64) _ _ _ a1_0 [.int .i64 a1_0] from rfl) (Reps.none _ _)))); intro v583 w111 ho112 hb hg_ hnew_; clear hg_ hnew_; (first | rw [← Ny582.out] at ho112 | (simp only [Int.reduceToNat] at ho112; rw [← Ny582.out] at ho112)); have HO584 := Aside0.mk (Kd.R_lower ho112 (below_size (sqB HB))); refine sqM3 BK575 BK576 BK577 hb ?_; clear BK575 BK576 BK577; intro BK575 BK576 BK577; replace HB := sqs HB hb; clear hb ho112; obtain ⟨Ao113, co113, eo113⟩ := Kd.R_slice HO584.out; subst eo113) | (go_at_call 152; (with_reducible refine (impl_restGcd.calls kj2 _ _ y582 t585 _ ?side1 ?side2 A61.out).mono ?_); (case side1 => exact sqC (Kd.R_reads' HO584.out).2.2); (case side2 => exact (Kd.R_reads' HO584.out).2.1); rintro e w' ⟨rfl, ⟨nd, rfl⟩⟩; (try first | exact ⟨rfl, _, World.drewN_drewN _ _ _⟩ | exact ⟨rfl, _, sqda⟩); obtain ⟨hcz114_0, hcz114_1, hfz114_0, hfz114_1⟩ := sqc2 BK575; obtain ⟨hcz115_0, hcz115_1, hfz115_0, hfz115_1⟩ := sqc2 BK576; obtain ⟨hcz116_0, hcz116_1, hfz116_0, hfz116_1⟩ := sqc2 BK577))
    repeat (go_quiet (first | ((with_reducible refine gate_dst (N := 40) rfl ?_); refine Kd.R_lit (Kd.int .i64) _ 3 ?hg (N := 40) ?hd (xs := ([a0_0, a1_0] : List Int)) (inner := [.int .i64 a0_0, .int .i64 a1_0]) (ok := fun _ => True) (okp := fun _ => True) ?hr ?hp (fun _ hk => hk) trivial (Below.refl _ _) (Nat.le_refl _) (by simp) ?_; (case hd => rfl); (case hg => rfl); (case hr => first | (go_simp; done) | (go_simp; rfl)); (case hp => exact (Reps.one (show Kd.M (Kd.int .i64) _ _ _ a0_0 [.int .i64 a0_0] from rfl) (Reps.one (show Kd.M (Kd.int .i64) _ _ _ a1_0 [.int .i64 a1_0] from rfl) (Reps.none _ _)))); intro v583 w111 ho112 hb hg_ hnew_; clear hg_ hnew_; (first | rw [← Ny582.out] at ho112 | (simp only [Int.reduceToNat] at ho112; rw [← Ny582.out] at ho112)); have HO584 := Aside0.mk (Kd.R_lower ho112 (below_size (sqB HB))); refine sqM3 BK575 BK576 BK577 hb ?_; clear BK575 BK576 BK577; intro BK575 BK576 BK577; replace HB := sqs HB hb; clear hb ho112; obtain ⟨Ao113, co113, eo113⟩ := Kd.R_slice HO584.out; subst eo113) | (go_at_call 152; (with_reducible refine (impl_restGcd.calls kj2 _ _ y582 t585 _ ?side1 ?side2 A61.out).mono ?_); (case side1 => exact sqC (Kd.R_reads' HO584.out).2.2); (case side2 => exact (Kd.R_reads' HO584.out).2.1); rintro e w' ⟨rfl, ⟨nd, rfl⟩⟩; (try first | exact ⟨rfl, _, World.drewN_drewN _ _ _⟩ | exact ⟨rfl, _, sqda⟩); obtain ⟨hcz114_0, hcz114_1, hfz114_0, hfz114_1⟩ := sqc2 BK575; obtain ⟨hcz115_0, hcz115_1, hfz115_0, hfz115_1⟩ := sqc2 BK576; obtain ⟨hcz116_0, hcz116_1, hfz116_0, hfz116_1⟩ := sqc2 BK577)); try go_wp2_with (first | ((with_reducible refine gate_dst (N := 40) rfl ?_); refine Kd.R_lit (Kd.int .i64) _ 3 ?hg (N := 40) ?hd (xs := ([a0_0, a1_0] : List Int)) (inner := [.int .i64 a0_0, .int .i64 a1_0]) (ok := fun _ => True) (okp := fun _ => True) ?hr ?hp (fun _ hk => hk) trivial (Below.refl _ _) (Nat.le_refl _) (by simp) ?_; (case hd => rfl); (case hg => rfl); (case hr => first | (go_simp; done) | (go_simp; rfl)); (case hp => exact (Reps.one (show Kd.M (Kd.int .i64) _ _ _ a0_0 [.int .i64 a0_0] from rfl) (Reps.one (show Kd.M (Kd.int .i64) _ _ _ a1_0 [.int .i64 a1_0] from rfl) (Reps.none _ _)))); intro v583 w111 ho112 hb hg_ hnew_; clear hg_ hnew_; (first | rw [← Ny582.out] at ho112 | (simp only [Int.reduceToNat] at ho112; rw [← Ny582.out] at ho112)); have HO584 := Aside0.mk (Kd.R_lower ho112 (below_size (sqB HB))); refine sqM3 BK575 BK576 BK577 hb ?_; clear BK575 BK576 BK577; intro BK575 BK576 BK577; replace HB := sqs HB hb; clear hb ho112; obtain ⟨Ao113, co113, eo113⟩ := Kd.R_slice HO584.out; subst eo113) | (go_at_call 152; (with_reducible refine (impl_restGcd.calls kj2 _ _ y582 t585 _ ?side1 ?side2 A61.out).mono ?_); (case side1 => exact sqC (Kd.R_reads' HO584.out).2.2); (case side2 => exact (Kd.R_reads' HO584.out).2.1); rintro e w' ⟨rfl, ⟨nd, rfl⟩⟩; (try first | exact ⟨rfl, _, World.drewN_drewN _ _ _⟩ | exact ⟨rfl, _, sqda⟩); obtain ⟨hcz114_0, hcz114_1, hfz114_0, hfz114_1⟩ := sqc2 BK575; obtain ⟨hcz115_0, hcz115_1, hfz115_0, hfz115_1⟩ := sqc2 BK576; obtain ⟨hcz116_0, hcz116_1, hfz116_0, hfz116_1⟩ := sqc2 BK577)))
    refine bodyPost_ret (results_ct rfl _ _ gb577 26 #[.int .i64 0, .int .i64 0] (0, 0) _ rfl (sqP BK577) Try.underlying26 rfl (by kernel_rfl)) rfl ?_
    exact sqe HB
   have c63b0 : ((Int.tmod (wrap64 (a0_1 - a1_1)) t585) == 0) = true := beq_iff_eq.mpr c63
   have c63b1 : ((Int.tmod (wrap64 (a0_1 - a1_1)) t585) != 0) = false := bne_eq_false_iff_eq.mpr c63
   clear c63
   have HC64 := Aside0.mk H
   clear H
   obtain ⟨hnb65, hnc65, hnb66, hnc66⟩ := sqN2 NB575_576 NB575_577
   obtain ⟨hcz67_0, hcz67_1, hfz67_0, hfz67_1⟩ := sqc2 BK575
   obtain ⟨hnb68, hnc68⟩ := sqN1 NB576_577
   obtain ⟨hcz69_0, hcz69_1, hfz69_0, hfz69_1⟩ := sqc2 BK576
   go_upto_if 55 with (first | ((with_reducible refine gate_dst (N := 40) rfl ?_); refine Kd.R_lit (Kd.int .i64) _ 3 ?hg (N := 40) ?hd (xs := ([a0_0, a1_0] : List Int)) (inner := [.int .i64 a0_0, .int .i64 a1_0]) (ok := fun _ => True) (okp := fun _ => True) ?hr ?hp (fun _ hk => hk) trivial (Below.refl _ _) (Nat.le_refl _) (by simp) ?_; (case hd => rfl); (case hg => rfl); (case hr => first | (go_simp; done) | (go_simp; rfl)); (case hp => exact (Reps.one (show Kd.M (Kd.int .i64) _ _ _ a0_0 [.int .i64 a0_0] from rfl) (Reps.one (show Kd.M (Kd.int .i64) _ _ _ a1_0 [.int .i64 a1_0] from rfl) (Reps.none _ _)))); intro v583 w70 ho71 hb hg_ hnew_; clear hg_ hnew_; (first | rw [← Ny582.out] at ho71 | (simp only [Int.reduceToNat] at ho71; rw [← Ny582.out] at ho71)); have HO584 := Aside0.mk (Kd.R_lower ho71 (below_size (sqB HB))); refine sqM3 BK575 BK576 BK577 hb ?_; clear BK575 BK576 BK577; intro BK575 BK576 BK577; replace HB := sqs HB hb; clear hb ho71; obtain ⟨Ao72, co72, eo72⟩ := Kd.R_slice HO584.out; subst eo72) | (go_at_call 152; (with_reducible refine (impl_restGcd.calls kj2 _ _ y582 t585 _ ?side1 ?side2 A61.out).mono ?_); (case side1 => exact sqC (Kd.R_reads' HO584.out).2.2); (case side2 => exact (Kd.R_reads' HO584.out).2.1); rintro e w' ⟨rfl, ⟨nd, rfl⟩⟩; (try first | exact ⟨rfl, _, World.drewN_drewN _ _ _⟩ | exact ⟨rfl, _, sqda⟩); obtain ⟨hcz73_0, hcz73_1, hfz73_0, hfz73_1⟩ := sqc2 BK575; obtain ⟨hcz74_0, hcz74_1, hfz74_0, hfz74_1⟩ := sqc2 BK576))
   repeat (go_quiet (first | ((with_reducible refine gate_dst (N := 40) rfl ?_); refine Kd.R_lit (Kd.int .i64) _ 3 ?hg (N := 40) ?hd (xs := ([a0_0, a1_0] : List Int)) (inner := [.int .i64 a0_0, .int .i64 a1_0]) (ok := fun _ => True) (okp := fun _ => True) ?hr ?hp (fun _ hk => hk) trivial (Below.refl _ _) (Nat.le_refl _) (by simp) ?_; (case hd => rfl); (case hg => rfl); (case hr => first | (go_simp; done) | (go_simp; rfl)); (case hp => exact (Reps.one (show Kd.M (Kd.int .i64) _ _ _ a0_0 [.int .i64 a0_0] from rfl) (Reps.one (show Kd.M (Kd.int .i64) _ _ _ a1_0 [.int .i64 a1_0] from rfl) (Reps.none _ _)))); intro v583 w70 ho71 hb hg_ hnew_; clear hg_ hnew_; (first | rw [← Ny582.out] at ho71 | (simp only [Int.reduceToNat] at ho71; rw [← Ny582.out] at ho71)); have HO584 := Aside0.mk (Kd.R_lower ho71 (below_size (sqB HB))); refine sqM3 BK575 BK576 BK577 hb ?_; clear BK575 BK576 BK577; intro BK575 BK576 BK577; replace HB := sqs HB hb; clear hb ho71; obtain ⟨Ao72, co72, eo72⟩ := Kd.R_slice HO584.out; subst eo72) | (go_at_call 152; (with_reducible refine (impl_restGcd.calls kj2 _ _ y582 t585 _ ?side1 ?side2 A61.out).mono ?_); (case side1 => exact sqC (Kd.R_reads' HO584.out).2.2); (case side2 => exact (Kd.R_reads' HO584.out).2.1); rintro e w' ⟨rfl, ⟨nd, rfl⟩⟩; (try first | exact ⟨rfl, _, World.drewN_drewN _ _ _⟩ | exact ⟨rfl, _, sqda⟩); obtain ⟨hcz73_0, hcz73_1, hfz73_0, hfz73_1⟩ := sqc2 BK575; obtain ⟨hcz74_0, hcz74_1, hfz74_0, hfz74_1⟩ := sqc2 BK576)); go_upto_if 55 with (first | ((with_reducible refine gate_dst (N := 40) rfl ?_); refine Kd.R_lit (Kd.int .i64) _ 3 ?hg (N := 40) ?hd (xs := ([a0_0, a1_0] : List Int)) (inner := [.int .i64 a0_0, .int .i64 a1_0]) (ok := fun _ => True) (okp := fun _ => True) ?hr ?hp (fun _ hk => hk) trivial (Below.refl _ _) (Nat.le_refl _) (by simp) ?_; (case hd => rfl); (case hg => rfl); (case hr => first | (go_simp; done) | (go_simp; rfl)); (case hp => exact (Reps.one (show Kd.M (Kd.int .i64) _ _ _ a0_0 [.int .i64 a0_0] from rfl) (Reps.one (show Kd.M (Kd.int .i64) _ _ _ a1_0 [.int .i64 a1_0] from rfl) (Reps.none _ _)))); intro v583 w70 ho71 hb hg_ hnew_; clear hg_ hnew_; (first | rw [← Ny582.out] at ho71 | (simp only [Int.reduceToNat] at ho71; rw [← Ny582.out] at ho71)); have HO584 := Aside0.mk (Kd.R_lower ho71 (below_size (sqB HB))); refine sqM3 BK575 BK576 BK577 hb ?_; clear BK575 BK576 BK577; intro BK575 BK576 BK577; replace HB := sqs HB hb; clear hb ho71; obtain ⟨Ao72, co72, eo72⟩ := Kd.R_slice HO584.out; subst eo72) | (go_at_call 152; (with_reducible refine (impl_restGcd.calls kj2 _ _ y582 t585 _ ?side1 ?side2 A61.out).mono ?_); (case side1 => exact sqC (Kd.R_reads' HO584.out).2.2); (case side2 => exact (Kd.R_reads' HO584.out).2.1); rintro e w' ⟨rfl, ⟨nd, rfl⟩⟩; (try first | exact ⟨rfl, _, World.drewN_drewN _ _ _⟩ | exact ⟨rfl, _, sqda⟩); obtain ⟨hcz73_0, hcz73_1, hfz73_0, hfz73_1⟩ := sqc2 BK575; obtain ⟨hcz74_0, hcz74_1, hfz74_0, hfz74_1⟩ := sqc2 BK576)))
   (try simp only [Act.put, List.setIfInBounds_toArray, List.set_cons_zero, List.set_cons_succ])
   go_cut [] (fun wc => ∃ (kq : Nat) (x576000_63 : Int) (x576001_63 : Int) (x577000_63 : Int) (x577001_63 : Int), Aside0 (impl_RestMeet.j1 kq t585 x576000_63 x576001_63 x577000_63 x577001_63 = some (r1, r2, r3)) ∧ Aside0 (kq ≤ kj2) ∧ Aside0 (wc.heap[gb575]? = some (.cells #[.int .i64 x576000_63, .int .i64 x576001_63] 26 (0, 0))) ∧ Aside0 (wc.heap[gb576]? = some (.cells #[.int .i64 x577000_63, .int .i64 x577001_63] 26 (0, 0))) ∧ Aside0 (wc.heap[gb577]? = some (.cells #[.int .i64 0, .int .i64 0] 26 (0, 0))) ∧ Aside0 (Below w.heap.size w wc))
   case first =>
    have H := HC64.out
    clear HC64
    replace H := sqi H
    rcases H with ⟨c75, H⟩ | ⟨c75, H⟩
    ·have c75b0 : decide (a0_0 < a1_0) = false := decide_eq_false c75
     clear c75
     (first | rw [c75b0] | (simp only [i64_w, i32_w]; rw [c75b0]) | skip)
     have H' := Aside0.mk H
     clear H
     go_wp2
     repeat (go_quiet (fail); try go_wp2)
     go_meet
     case rel => exact ⟨_, (a0_0), (a0_1), (a1_0), (a1_1), H', ⟨by have := HJ2.out; first | omega | exact Nat.le_refl _⟩, sqk BK575, sqk BK576, sqk BK577, sqh HB⟩
    have c75b0 : decide (a0_0 < a1_0) = true := decide_eq_true c75
    clear c75
    (first | rw [c75b0] | (simp only [i64_w, i32_w]; rw [c75b0]) | skip)
    have H' := Aside0.mk H
    clear H
    obtain ⟨hnb76, hnc76, hnb77, hnc77⟩ := sqN2 NB576_575 NB576_577
    obtain ⟨hcz78_0, hcz78_1, hfz78_0, hfz78_1⟩ := sqc2 BK576
    obtain ⟨hnb79, hnc79⟩ := sqN1 NB575_577
    obtain ⟨hcz80_0, hcz80_1, hfz80_0, hfz80_1⟩ := sqc2 BK575
    go_wp2
    repeat (go_quiet (fail); try go_wp2)
    go_meet
    case rel => exact ⟨_, (a1_0), (a1_1), (a0_0), (a0_1), H', ⟨by have := HJ2.out; first | omega | exact Nat.le_refl _⟩, ⟨sqP BK575⟩, ⟨sqP BK576⟩, ⟨sqT BK577⟩, sqh HB⟩
   case rest =>
    clear HC64
    obtain ⟨kq, x576000_63, x576001_63, x577000_63, x577001_63, HA, HJ63, BK575, BK576, BK577, HB⟩ := hcut
    cases kq with
    | zero => exact absurd HA.out (by simp [impl_RestMeet.j1])
    | succ kj63 =>
     have H := HA.out
     clear HA
     simp only [impl_RestMeet.j1] at H
     replace H := sqj H
     rcases H with ⟨c81, H⟩ | ⟨c81, H⟩
     ·exact absurd H (by simp)
     have c81b0 : (t585 == 0) = false := beq_eq_false_iff_ne.mpr c81
     have c81b1 : (t585 != 0) = true := bne_iff_ne.mpr c81
     replace H := sqj H
     rcases H with ⟨c82, H⟩ | ⟨c82, H⟩
     ·have c82b0 : decide (65536 < (wrap64 ((wrap64 (Int.tdiv x576000_63 t585)) * x577000_63))) = true := decide_eq_true c82
      clear c82
      simp only [Option.some.injEq, Prod.mk.injEq] at H
      obtain ⟨rfl, rfl, rfl⟩ := H
      obtain ⟨hnb83, hnc83, hnb84, hnc84⟩ := sqN2 NB575_576 NB575_577
      obtain ⟨hcz85_0, hcz85_1, hfz85_0, hfz85_1⟩ := sqc2 BK575
      obtain ⟨hnb86, hnc86⟩ := sqN1 NB576_577
      obtain ⟨hcz87_0, hcz87_1, hfz87_0, hfz87_1⟩ := sqc2 BK576
      obtain ⟨hcz88_0, hcz88_1, hfz88_0, hfz88_1⟩ := sqc2 BK577
      go_wp2
      repeat (go_quiet (fail); try go_wp2)
      refine bodyPost_ret (results_ct rfl _ _ gb577 26 #[.int .i64 x576000_63, .int .i64 x576001_63] (0, 0) _ rfl (sqP BK577) Try.underlying26 rfl (by kernel_rfl)) rfl ?_
      exact sqe HB
     have c82b0 : decide (65536 < (wrap64 ((wrap64 (Int.tdiv x576000_63 t585)) * x577000_63))) = false := decide_eq_false c82
     clear c82
     have H' := Aside0.mk H
     clear H
     obtain ⟨hnb89, hnc89, hnb90, hnc90⟩ := sqN2 NB575_576 NB575_577
     obtain ⟨hcz91_0, hcz91_1, hfz91_0, hfz91_1⟩ := sqc2 BK575
     obtain ⟨hnb92, hnc92⟩ := sqN1 NB576_577
     obtain ⟨hcz93_0, hcz93_1, hfz93_0, hfz93_1⟩ := sqc2 BK576
     go_wp2
     repeat (go_quiet (fail); try go_wp2)
     go_loopg [8] kj63 (fun kq v8 w' => ∃ (x8_3 : Int), v8 = .int .i64 x8_3 ∧ Aside0 (impl_RestMeet.l0 kq (wrap64 ((wrap64 (Int.tdiv x576000_63 t585)) * x577000_63)) x8_3 x576000_63 x576001_63 x577000_63 x577001_63 = some (r1, r2, r3)) ∧ Aside0 (kq ≤ kj63) ∧ Aside0 (w'.heap[gb575]? = some (.cells #[.int .i64 x576000_63, .int .i64 x576001_63] 26 (0, 0))) ∧ Aside0 (w'.heap[gb576]? = some (.cells #[.int .i64 x577000_63, .int .i64 x577001_63] 26 (0, 0))) ∧ Aside0 (w'.heap[gb577]? = some (.cells #[.int .i64 0, .int .i64 0] 26 (0, 0))) ∧ Aside0 (Below w.heap.size w w'))
     case atStart => exact ⟨(x576001_63), (by first | rfl | (simp; done) | (simp [*]; done)), H', ⟨Nat.le_refl _⟩, sqk BK575, sqk BK576, sqk BK577, sqh HB⟩
     case round =>
      clear H'
      obtain ⟨x8_3, rfl, HA, HK3, BK575, BK576, BK577, HB⟩ := hrel
      cases gk with
      | zero => exact absurd HA.out (by simp [impl_RestMeet.l0])
      | succ k3 =>
       have H := HA.out
       clear HA
       simp only [impl_RestMeet.l0] at H
       replace H := sqbi H
       obtain ⟨t586, A94, H⟩ := H
       try dsimp only at H
       replace H := sqi H
       rcases H with ⟨c95, H⟩ | ⟨c95, H⟩
       ·have c95b0 : (t586 == x577001_63) = false := beq_eq_false_iff_ne.mpr c95
        have c95b1 : (t586 != x577001_63) = true := bne_iff_ne.mpr c95
        have H' := Aside0.mk H
        clear H
        obtain ⟨hnb101, hnc101, hnb102, hnc102⟩ := sqN2 NB576_575 NB576_577
        obtain ⟨hcz103_0, hcz103_1, hfz103_0, hfz103_1⟩ := sqc2 BK576
        go_wp2_with (first | (go_at_call 98; (with_reducible refine (impl_restMod.calls x8_3 x577000_63 t586 _ A94.out).mono ?_); rintro e w' ⟨rfl, ⟨nd, rfl⟩⟩; (try first | exact ⟨rfl, _, World.drewN_drewN _ _ _⟩ | exact ⟨rfl, _, sqda⟩); obtain ⟨hnb104, hnc104⟩ := sqN1 NB575_577; obtain ⟨hcz105_0, hcz105_1, hfz105_0, hfz105_1⟩ := sqc2 BK575))
        repeat (go_quiet (first | (go_at_call 98; (with_reducible refine (impl_restMod.calls x8_3 x577000_63 t586 _ A94.out).mono ?_); rintro e w' ⟨rfl, ⟨nd, rfl⟩⟩; (try first | exact ⟨rfl, _, World.drewN_drewN _ _ _⟩ | exact ⟨rfl, _, sqda⟩); obtain ⟨hnb104, hnc104⟩ := sqN1 NB575_577; obtain ⟨hcz105_0, hcz105_1, hfz105_0, hfz105_1⟩ := sqc2 BK575)); try go_wp2_with (first | (go_at_call 98; (with_reducible refine (impl_restMod.calls x8_3 x577000_63 t586 _ A94.out).mono ?_); rintro e w' ⟨rfl, ⟨nd, rfl⟩⟩; (try first | exact ⟨rfl, _, World.drewN_drewN _ _ _⟩ | exact ⟨rfl, _, sqda⟩); obtain ⟨hnb104, hnc104⟩ := sqN1 NB575_577; obtain ⟨hcz105_0, hcz105_1, hfz105_0, hfz105_1⟩ := sqc2 BK575)))
        go_roundg k3
        case measure => have := HJ2.out; have := HJ63.out; have := HK3.out; omega
        case rel => exact ⟨(wrap64 (x8_3 + x576000_63)), (by first | rfl | (simp; done) | (simp [*]; done)), H', ⟨by have := HJ2.out; have := HJ63.out; have := HK3.out; omega⟩, sqk BK575, sqk BK576, sqk BK577, sqh HB⟩
       have c95b0 : (t586 == x577001_63) = true := beq_iff_eq.mpr c95
       have c95b1 : (t586 != x577001_63) = false := bne_eq_false_iff_eq.mpr c95
       clear c95
       simp only [Option.some.injEq, Prod.mk.injEq] at H
       obtain ⟨rfl, rfl, rfl⟩ := H
       obtain ⟨hnb96, hnc96, hnb97, hnc97⟩ := sqN2 NB576_575 NB576_577
       obtain ⟨hcz98_0, hcz98_1, hfz98_0, hfz98_1⟩ := sqc2 BK576
       go_wp2_with (first | (go_at_call 98; (with_reducible refine (impl_restMod.calls x8_3 x577000_63 t586 _ A94.out).mono ?_); rintro e w' ⟨rfl, ⟨nd, rfl⟩⟩; (try first | exact ⟨rfl, _, World.drewN_drewN _ _ _⟩ | exact ⟨rfl, _, sqda⟩); obtain ⟨hnb99, hnc99⟩ := sqN1 NB577_575; obtain ⟨hcz100_0, hcz100_1, hfz100_0, hfz100_1⟩ := sqc2 BK577))
       repeat (go_quiet (first | (go_at_call 98; (with_reducible refine (impl_restMod.calls x8_3 x577000_63 t586 _ A94.out).mono ?_); rintro e w' ⟨rfl, ⟨nd, rfl⟩⟩; (try first | exact ⟨rfl, _, World.drewN_drewN _ _ _⟩ | exact ⟨rfl, _, sqda⟩); obtain ⟨hnb99, hnc99⟩ := sqN1 NB577_575; obtain ⟨hcz100_0, hcz100_1, hfz100_0, hfz100_1⟩ := sqc2 BK577)); try go_wp2_with (first | (go_at_call 98; (with_reducible refine (impl_restMod.calls x8_3 x577000_63 t586 _ A94.out).mono ?_); rintro e w' ⟨rfl, ⟨nd, rfl⟩⟩; (try first | exact ⟨rfl, _, World.drewN_drewN _ _ _⟩ | exact ⟨rfl, _, sqda⟩); obtain ⟨hnb99, hnc99⟩ := sqN1 NB577_575; obtain ⟨hcz100_0, hcz100_1, hfz100_0, hfz100_1⟩ := sqc2 BK577)))
       refine bodyPost_ret (results_ct rfl _ _ gb577 26 #[.int .i64 (wrap64 ((wrap64 (Int.tdiv x576000_63 t585)) * x577000_63)), .int .i64 x8_3] (0, 0) _ rfl (sqP BK577) Try.underlying26 rfl (by kernel_rfl)) rfl ?_
       exact sqe HB

end Go.Proofs.Ytkekcenlleebeaa.PFnValLattice
