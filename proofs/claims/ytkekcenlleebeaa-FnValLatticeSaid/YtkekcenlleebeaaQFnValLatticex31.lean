/- Functions of the program as plain Lean functions, and that calls of them come to what these tell. Conditions: those in each law. -/
import Derived.Test.YtkekcenlleebeaaSq
import Derived.Test.YtkekcenlleebeaaDFnValLattice
import Derived.Test.YtkekcenlleebeaaQFnValLatticex0
import Derived.Test.YtkekcenlleebeaaQFnValLatticex7
import Derived.Test.YtkekcenlleebeaaQFnValLatticex8
import Derived.Test.YtkekcenlleebeaaQFnValLatticex14
import Derived.Test.YtkekcenlleebeaaQFnValLatticex28
namespace Go.Proofs.Ytkekcenlleebeaa.PFnValLattice
open Go.RowKit Go.Proofs.Ytkekcenlleebeaa.Sq Go.Proofs.YtkekcenlleebeaaW.PrintWords Go.Proofs.YtkekcenlleebeaaW.PrintLast Go.Proofs.YtkekcenlleebeaaW.PrintMore
attribute [local go_sem] max2_int min2_int max_two min_two max_three min_three max_four min_four   -- for this text's walks alone
set_option linter.unusedVariables false
set_option linter.unusedSimpArgs false

/-! ### spec_RestMeet: function 190 -/
set_option maxHeartbeats 8000000 in
set_option maxRecDepth 100000 in
theorem spec_RestMeet.calls (k : Nat) : ∀ (a0_0 : Int) (a0_1 : Int) (a1_0 : Int) (a1_1 : Int) (r1 : Int) (r2 : Int) (r3 : Bool) (w : World) (h : spec_RestMeet.f k a0_0 a0_1 a1_0 a1_1 = some (r1, r2, r3)),
  Calls Try.prog 190 #[.agg #[.int .i64 a0_0, .int .i64 a0_1], .agg #[.int .i64 a1_0, .int .i64 a1_1]] w fun e w' => e = .returned (.tuple #[.agg #[.int .i64 r1, .int .i64 r2], .bool r3]) ∧ Below w.heap.size w w' := by
 induction k using Nat.strongRecOn with
 | _ k ih =>
 intro a0_0 a0_1 a1_0 a1_1 r1 r2 r3 w h
 cases k with
 | zero => exact absurd h (by simp [spec_RestMeet.f])
 | succ k =>
 simp only [spec_RestMeet.f] at h
 have hu26 := Try.underlying26
 have HB := Aside0.mk (Below.refl w.heap.size w)
 have H := h
 unfold spec_RestMeet.f at H
 clear h
 have HC3 := Aside0.mk H
 clear H
 go_enter Try.func190, Try.ntmps190
 go_upto_region 1 with (first | ((with_reducible refine gate_dst (N := 2) rfl ?_); refine sqx 2 #[.int .i64 a0_0, .int .i64 a0_1] 26 ?_; intro gb737 hg w4 hbox hb; have BK737 := Aside0.mk hbox; have GW737 := sqg HB hg; replace HB := sqs HB hb; clear hb hbox hg) | ((with_reducible refine gate_dst (N := 3) rfl ?_); refine sqx 3 #[.int .i64 a1_0, .int .i64 a1_1] 26 ?_; intro gb738 hg w5 hbox hb; have BK738 := Aside0.mk hbox; have GW738 := sqg HB hg; have NB737_738 := sqn BK737 hg; have NB738_737 := sqm BK737 hg; replace BK737 := sqb BK737 hb; replace HB := sqs HB hb; clear hb hbox hg) | ((with_reducible refine gate_dst (N := 4) rfl ?_); refine sqx 4 #[.int .i64 0, .int .i64 0] 26 ?_; intro gb739 hg w6 hbox hb; have BK739 := Aside0.mk hbox; have GW739 := sqg HB hg; have NB737_739 := sqn BK737 hg; have NB739_737 := sqm BK737 hg; have NB738_739 := sqn BK738 hg; have NB739_738 := sqm BK738 hg; refine sqM2 BK737 BK738 hb ?_; clear BK737 BK738; intro BK737 BK738; replace HB := sqs HB hb; clear hb hbox hg))
 repeat (go_quiet (first | ((with_reducible refine gate_dst (N := 2) rfl ?_); refine sqx 2 #[.int .i64 a0_0, .int .i64 a0_1] 26 ?_; intro gb737 hg w4 hbox hb; have BK737 := Aside0.mk hbox; have GW737 := sqg HB hg; replace HB := sqs HB hb; clear hb hbox hg) | ((with_reducible refine gate_dst (N := 3) rfl ?_); refine sqx 3 #[.int .i64 a1_0, .int .i64 a1_1] 26 ?_; intro gb738 hg w5 hbox hb; have BK738 := Aside0.mk hbox; have GW738 := sqg HB hg; have NB737_738 := sqn BK737 hg; have NB738_737 := sqm BK737 hg; replace BK737 := sqb BK737 hb; replace HB := sqs HB hb; clear hb hbox hg) | ((with_reducible refine gate_dst (N := 4) rfl ?_); refine sqx 4 #[.int .i64 0, .int .i64 0] 26 ?_; intro gb739 hg w6 hbox hb; have BK739 := Aside0.mk hbox; have GW739 := sqg HB hg; have NB737_739 := sqn BK737 hg; have NB739_737 := sqm BK737 hg; have NB738_739 := sqn BK738 hg; have NB739_738 := sqm BK738 hg; refine sqM2 BK737 BK738 hb ?_; clear BK737 BK738; intro BK737 BK738; replace HB := sqs HB hb; clear hb hbox hg)); go_upto_region 1 with (first | ((with_reducible refine gate_dst (N := 2) rfl ?_); refine sqx 2 #[.int .i64 a0_0, .int .i64 a0_1] 26 ?_; intro gb737 hg w4 hbox hb; have BK737 := Aside0.mk hbox; have GW737 := sqg HB hg; replace HB := sqs HB hb; clear hb hbox hg) | ((with_reducible refine gate_dst (N := 3) rfl ?_); refine sqx 3 #[.int .i64 a1_0, .int .i64 a1_1] 26 ?_; intro gb738 hg w5 hbox hb; have BK738 := Aside0.mk hbox; have GW738 := sqg HB hg; have NB737_738 := sqn BK737 hg; have NB738_737 := sqm BK737 hg; replace BK737 := sqb BK737 hb; replace HB := sqs HB hb; clear hb hbox hg) | ((with_reducible refine gate_dst (N := 4) rfl ?_); refine sqx 4 #[.int .i64 0, .int .i64 0] 26 ?_; intro gb739 hg w6 hbox hb; have BK739 := Aside0.mk hbox; have GW739 := sqg HB hg; have NB737_739 := sqn BK737 hg; have NB739_737 := sqm BK737 hg; have NB738_739 := sqn BK738 hg; have NB739_738 := sqm BK738 hg; refine sqM2 BK737 BK738 hb ?_; clear BK737 BK738; intro BK737 BK738; replace HB := sqs HB hb; clear hb hbox hg)))
 (try simp only [Act.put, List.setIfInBounds_toArray, List.set_cons_zero, List.set_cons_succ])
 go_cut [16] (fun v16 wc => ∃ (kq : Nat) (x16_2 : Bool), v16 = .bool x16_2 ∧ Aside0 (spec_RestMeet.j0 kq x16_2 a0_0 a0_1 a1_0 a1_1 = some (r1, r2, r3)) ∧ Aside0 (kq ≤ k) ∧ Aside0 (wc.heap[gb737]? = some (.cells #[.int .i64 a0_0, .int .i64 a0_1] 26 (0, 0))) ∧ Aside0 (wc.heap[gb738]? = some (.cells #[.int .i64 a1_0, .int .i64 a1_1] 26 (0, 0))) ∧ Aside0 (wc.heap[gb739]? = some (.cells #[.int .i64 0, .int .i64 0] 26 (0, 0))) ∧ Aside0 (Below w.heap.size w wc))
 case first =>
  have H := HC3.out
  clear HC3
  replace H := sqbi H
  obtain ⟨t740, A7, H⟩ := H
  try dsimp only at H
  rcases sqI (t740 = true) with c8 | c8
  ·replace c8 := Bool.eq_false_iff.mpr c8
   subst c8
   have H1 : (spec_RestMeet.j0 k true a0_0 a0_1 a1_0 a1_1) = some (r1, r2, r3) := by rw [if_neg (show ¬ (false = true) by decide)] at H; exact H
   clear H
   have H := H1
   clear H1
   have H' := Aside0.mk H
   clear H
   obtain ⟨hnb17, hnc17, hnb18, hnc18⟩ := sqN2 NB737_738 NB737_739
   obtain ⟨hcz19_0, hcz19_1, hfz19_0, hfz19_1⟩ := sqc2 BK737
   go_wp2_with (first | (go_at_call 66; (with_reducible refine (spec_RestOk.calls a0_0 a0_1 false _ A7.out).mono ?_); rintro e w20 ⟨rfl, hb⟩; refine sqM3 BK737 BK738 BK739 hb ?_; clear BK737 BK738 BK739; intro BK737 BK738 BK739; replace HB := sqs HB hb; (try clear hb)))
   repeat (go_quiet (first | (go_at_call 66; (with_reducible refine (spec_RestOk.calls a0_0 a0_1 false _ A7.out).mono ?_); rintro e w20 ⟨rfl, hb⟩; refine sqM3 BK737 BK738 BK739 hb ?_; clear BK737 BK738 BK739; intro BK737 BK738 BK739; replace HB := sqs HB hb; (try clear hb))); try go_wp2_with (first | (go_at_call 66; (with_reducible refine (spec_RestOk.calls a0_0 a0_1 false _ A7.out).mono ?_); rintro e w20 ⟨rfl, hb⟩; refine sqM3 BK737 BK738 BK739 hb ?_; clear BK737 BK738 BK739; intro BK737 BK738 BK739; replace HB := sqs HB hb; (try clear hb))))
   go_meet
   case rel => exact ⟨_, (true), (by first | rfl | (simp; done) | (simp [*]; done)), H', ⟨by first | omega | exact Nat.le_refl _⟩, sqk BK737, sqk BK738, sqk BK739, sqh HB⟩
  subst c8
  have H1 : ((spec_RestOk.f a1_0 a1_1).bind fun t741 => (spec_RestMeet.j0 k (!t741) a0_0 a0_1 a1_0 a1_1)) = some (r1, r2, r3) := by rw [if_pos rfl] at H; exact H
  clear H
  have H := H1
  clear H1
  replace H := sqbi H
  obtain ⟨t741, A9, H⟩ := H
  try dsimp only at H
  have H' := Aside0.mk H
  clear H
  obtain ⟨hnb10, hnc10, hnb11, hnc11⟩ := sqN2 NB737_738 NB737_739
  obtain ⟨hcz12_0, hcz12_1, hfz12_0, hfz12_1⟩ := sqc2 BK737
  go_wp2_with (first | (go_at_call 66; (with_reducible refine (spec_RestOk.calls a0_0 a0_1 true _ A7.out).mono ?_); rintro e w13 ⟨rfl, hb⟩; refine sqM3 BK737 BK738 BK739 hb ?_; clear BK737 BK738 BK739; intro BK737 BK738 BK739; replace HB := sqs HB hb; (try clear hb); obtain ⟨hnb14, hnc14⟩ := sqN1 NB738_739; obtain ⟨hcz15_0, hcz15_1, hfz15_0, hfz15_1⟩ := sqc2 BK738) | (go_at_call 66; (with_reducible refine (spec_RestOk.calls a1_0 a1_1 t741 _ A9.out).mono ?_); rintro e w16 ⟨rfl, hb⟩; refine sqM3 BK737 BK738 BK739 hb ?_; clear BK737 BK738 BK739; intro BK737 BK738 BK739; replace HB := sqs HB hb; (try clear hb)))
  repeat (go_quiet (first | (go_at_call 66; (with_reducible refine (spec_RestOk.calls a0_0 a0_1 true _ A7.out).mono ?_); rintro e w13 ⟨rfl, hb⟩; refine sqM3 BK737 BK738 BK739 hb ?_; clear BK737 BK738 BK739; intro BK737 BK738 BK739; replace HB := sqs HB hb; (try clear hb); obtain ⟨hnb14, hnc14⟩ := sqN1 NB738_739; obtain ⟨hcz15_0, hcz15_1, hfz15_0, hfz15_1⟩ := sqc2 BK738) | (go_at_call 66; (with_reducible refine (spec_RestOk.calls a1_0 a1_1 t741 _ A9.out).mono ?_); rintro e w16 ⟨rfl, hb⟩; refine sqM3 BK737 BK738 BK739 hb ?_; clear BK737 BK738 BK739; intro BK737 BK738 BK739; replace HB := sqs HB hb; (try clear hb))); try go_wp2_with (first | (go_at_call 66; (with_reducible refine (spec_RestOk.calls a0_0 a0_1 true _ A7.out).mono ?_); rintro e w13 ⟨rfl, hb⟩; refine sqM3 BK737 BK738 BK739 hb ?_; clear BK737 BK738 BK739; intro BK737 BK738 BK739; replace HB := sqs HB hb; (try clear hb); obtain ⟨hnb14, hnc14⟩ := sqN1 NB738_739; obtain ⟨hcz15_0, hcz15_1, hfz15_0, hfz15_1⟩ := sqc2 BK738) | (go_at_call 66; (with_reducible refine (spec_RestOk.calls a1_0 a1_1 t741 _ A9.out).mono ?_); rintro e w16 ⟨rfl, hb⟩; refine sqM3 BK737 BK738 BK739 hb ?_; clear BK737 BK738 BK739; intro BK737 BK738 BK739; replace HB := sqs HB hb; (try clear hb))))
  go_meet
  case rel => exact ⟨_, (!t741), (by first | rfl | (simp; done) | (simp [*]; done)), H', ⟨by first | omega | exact Nat.le_refl _⟩, sqk BK737, sqk BK738, sqk BK739, sqh HB⟩
 case rest =>
  clear HC3
  obtain ⟨kq, x16_2, rfl, HA, HJ2, BK737, BK738, BK739, HB⟩ := hcut
  cases kq with
  | zero => exact absurd HA.out (by simp [spec_RestMeet.j0])
  | succ kj2 =>
   have H := HA.out
   clear HA
   simp only [spec_RestMeet.j0] at H
   by_cases c21 : x16_2 = true
   ·subst c21
    have H1 : (some (0, 0, false)) = some (r1, r2, r3) := by rw [if_pos rfl] at H; exact H
    clear H
    have H := H1
    clear H1
    simp only [Option.some.injEq, Prod.mk.injEq] at H
    obtain ⟨rfl, rfl, rfl⟩ := H
    obtain ⟨hnb22, hnc22, hnb23, hnc23⟩ := sqN2 NB739_737 NB739_738
    obtain ⟨hcz24_0, hcz24_1, hfz24_0, hfz24_1⟩ := sqc2 BK739
    go_wp2
    repeat (go_quiet (fail); try go_wp2)
    refine bodyPost_ret (results_ct rfl _ _ gb739 26 #[.int .i64 0, .int .i64 0] (0, 0) _ rfl (sqP BK739) Try.underlying26 rfl (by kernel_rfl)) rfl ?_
    exact sqe HB
   replace c21 := Bool.eq_false_iff.mpr c21
   subst c21
   have H1 : (if a0_0 = 0 then ((spec_RestHas.f kj2 a1_0 a1_1 a0_1).bind fun t742 => (if t742 = true then (some (a0_0, a0_1, true)) else (some (0, 0, false)))) else (if a1_0 = 0 then ((spec_RestMeet.f kj2 a1_0 a1_1 a0_0 a0_1).bind fun bt743 => (some (bt743.1, bt743.2.1, bt743.2.2))) else ((spec_l9Gcd.f kj2 a0_0 a1_0).bind fun t746 => ((spec_l1Mod.f (wrap64 (a0_1 - a1_1)) t746).bind fun t747 => (if t747 = 0 then (if t746 = 0 then (none) else (if (wrap64 ((wrap64 (Int.tdiv a0_0 t746)) * a1_0)) > 65536 then (if a1_0 > a0_0 then (some (a1_0, a1_1, true)) else (some (a0_0, a0_1, true))) else (spec_RestMeet.l0 kj2 (wrap64 ((wrap64 (Int.tdiv a0_0 t746)) * a1_0)) a0_1 a0_0 a0_1 a1_0 a1_1))) else (some (0, 0, false))))))) = some (r1, r2, r3) := by rw [if_neg (show ¬ (false = true) by decide)] at H; exact H
   clear H
   have H := H1
   clear H1
   replace H := sqj H
   rcases H with ⟨c25, H⟩ | ⟨c25, H⟩
   ·have c25b0 : (a0_0 == 0) = true := beq_iff_eq.mpr c25
    have c25b1 : (a0_0 != 0) = false := bne_eq_false_iff_eq.mpr c25
    clear c25
    replace H := sqbi H
    obtain ⟨t742, A26, H⟩ := H
    try dsimp only at H
    rcases sqI (t742 = true) with c27 | c27
    ·replace c27 := Bool.eq_false_iff.mpr c27
     subst c27
     have H1 : (some (0, 0, false)) = some (r1, r2, r3) := by rw [if_neg (show ¬ (false = true) by decide)] at H; exact H
     clear H
     have H := H1
     clear H1
     simp only [Option.some.injEq, Prod.mk.injEq] at H
     obtain ⟨rfl, rfl, rfl⟩ := H
     obtain ⟨hnb36, hnc36, hnb37, hnc37⟩ := sqN2 NB737_738 NB737_739
     obtain ⟨hcz38_0, hcz38_1, hfz38_0, hfz38_1⟩ := sqc2 BK737
     obtain ⟨hnb39, hnc39⟩ := sqN1 NB738_739
     obtain ⟨hcz40_0, hcz40_1, hfz40_0, hfz40_1⟩ := sqc2 BK738
     go_wp2_with (first | (go_at_call 23; (with_reducible refine (spec_RestHas.calls kj2 a1_0 a1_1 a0_1 false _ A26.out).mono ?_); rintro e w41 ⟨rfl, hb⟩; refine sqM3 BK737 BK738 BK739 hb ?_; clear BK737 BK738 BK739; intro BK737 BK738 BK739; replace HB := sqs HB hb; (try clear hb); obtain ⟨hcz42_0, hcz42_1, hfz42_0, hfz42_1⟩ := sqc2 BK739))
     repeat (go_quiet (first | (go_at_call 23; (with_reducible refine (spec_RestHas.calls kj2 a1_0 a1_1 a0_1 false _ A26.out).mono ?_); rintro e w41 ⟨rfl, hb⟩; refine sqM3 BK737 BK738 BK739 hb ?_; clear BK737 BK738 BK739; intro BK737 BK738 BK739; replace HB := sqs HB hb; (try clear hb); obtain ⟨hcz42_0, hcz42_1, hfz42_0, hfz42_1⟩ := sqc2 BK739)); try go_wp2_with (first | (go_at_call 23; (with_reducible refine (spec_RestHas.calls kj2 a1_0 a1_1 a0_1 false _ A26.out).mono ?_); rintro e w41 ⟨rfl, hb⟩; refine sqM3 BK737 BK738 BK739 hb ?_; clear BK737 BK738 BK739; intro BK737 BK738 BK739; replace HB := sqs HB hb; (try clear hb); obtain ⟨hcz42_0, hcz42_1, hfz42_0, hfz42_1⟩ := sqc2 BK739)))
     refine bodyPost_ret (results_ct rfl _ _ gb739 26 #[.int .i64 0, .int .i64 0] (0, 0) _ rfl (sqP BK739) Try.underlying26 rfl (by kernel_rfl)) rfl ?_
     exact sqe HB
    subst c27
    have H1 : (some (a0_0, a0_1, true)) = some (r1, r2, r3) := by rw [if_pos rfl] at H; exact H
    clear H
    have H := H1
    clear H1
    simp only [Option.some.injEq, Prod.mk.injEq] at H
    obtain ⟨rfl, rfl, rfl⟩ := H
    obtain ⟨hnb28, hnc28, hnb29, hnc29⟩ := sqN2 NB737_738 NB737_739
    obtain ⟨hcz30_0, hcz30_1, hfz30_0, hfz30_1⟩ := sqc2 BK737
    obtain ⟨hnb31, hnc31⟩ := sqN1 NB738_739
    obtain ⟨hcz32_0, hcz32_1, hfz32_0, hfz32_1⟩ := sqc2 BK738
    go_wp2_with (first | (go_at_call 23; (with_reducible refine (spec_RestHas.calls kj2 a1_0 a1_1 a0_1 true _ A26.out).mono ?_); rintro e w33 ⟨rfl, hb⟩; refine sqM3 BK737 BK738 BK739 hb ?_; clear BK737 BK738 BK739; intro BK737 BK738 BK739; replace HB := sqs HB hb; (try clear hb); obtain ⟨hcz34_0, hcz34_1, hfz34_0, hfz34_1⟩ := sqc2 BK737; obtain ⟨hcz35_0, hcz35_1, hfz35_0, hfz35_1⟩ := sqc2 BK739))
    repeat (go_quiet (first | (go_at_call 23; (with_reducible refine (spec_RestHas.calls kj2 a1_0 a1_1 a0_1 true _ A26.out).mono ?_); rintro e w33 ⟨rfl, hb⟩; refine sqM3 BK737 BK738 BK739 hb ?_; clear BK737 BK738 BK739; intro BK737 BK738 BK739; replace HB := sqs HB hb; (try clear hb); obtain ⟨hcz34_0, hcz34_1, hfz34_0, hfz34_1⟩ := sqc2 BK737; obtain ⟨hcz35_0, hcz35_1, hfz35_0, hfz35_1⟩ := sqc2 BK739)); try go_wp2_with (first | (go_at_call 23; (with_reducible refine (spec_RestHas.calls kj2 a1_0 a1_1 a0_1 true _ A26.out).mono ?_); rintro e w33 ⟨rfl, hb⟩; refine sqM3 BK737 BK738 BK739 hb ?_; clear BK737 BK738 BK739; intro BK737 BK738 BK739; replace HB := sqs HB hb; (try clear hb); obtain ⟨hcz34_0, hcz34_1, hfz34_0, hfz34_1⟩ := sqc2 BK737; obtain ⟨hcz35_0, hcz35_1, hfz35_0, hfz35_1⟩ := sqc2 BK739)))
    refine bodyPost_ret (results_ct rfl _ _ gb739 26 #[.int .i64 a0_0, .int .i64 a0_1] (0, 0) _ rfl (sqP BK739) Try.underlying26 rfl (by kernel_rfl)) rfl ?_
    exact sqe HB
   have c25b0 : (a0_0 == 0) = false := beq_eq_false_iff_ne.mpr c25
   have c25b1 : (a0_0 != 0) = true := bne_iff_ne.mpr c25
   replace H := sqj H
   rcases H with ⟨c43, H⟩ | ⟨c43, H⟩
   ·have c43b0 : (a1_0 == 0) = true := beq_iff_eq.mpr c43
    have c43b1 : (a1_0 != 0) = false := bne_eq_false_iff_eq.mpr c43
    clear c43
    replace H := sqbi H
    obtain ⟨⟨t743, t744, t745⟩, A44, H⟩ := H
    try dsimp only at H
    simp only [Option.some.injEq, Prod.mk.injEq] at H
    obtain ⟨rfl, rfl, rfl⟩ := H
    obtain ⟨hnb45, hnc45, hnb46, hnc46⟩ := sqN2 NB737_738 NB737_739
    obtain ⟨hcz47_0, hcz47_1, hfz47_0, hfz47_1⟩ := sqc2 BK737
    obtain ⟨hnb48, hnc48⟩ := sqN1 NB738_739
    obtain ⟨hcz49_0, hcz49_1, hfz49_0, hfz49_1⟩ := sqc2 BK738
    go_wp2_with (first | (go_at_call 190; (with_reducible refine (ih kj2 (by have := HJ2.out; omega) a1_0 a1_1 a0_0 a0_1 t743 t744 t745 _ A44.out).mono ?_); rintro e w50 ⟨rfl, hb⟩; refine sqM3 BK737 BK738 BK739 hb ?_; clear BK737 BK738 BK739; intro BK737 BK738 BK739; replace HB := sqs HB hb; (try clear hb); obtain ⟨hcz51_0, hcz51_1, hfz51_0, hfz51_1⟩ := sqc2 BK739))
    repeat (go_quiet (first | (go_at_call 190; (with_reducible refine (ih kj2 (by have := HJ2.out; omega) a1_0 a1_1 a0_0 a0_1 t743 t744 t745 _ A44.out).mono ?_); rintro e w50 ⟨rfl, hb⟩; refine sqM3 BK737 BK738 BK739 hb ?_; clear BK737 BK738 BK739; intro BK737 BK738 BK739; replace HB := sqs HB hb; (try clear hb); obtain ⟨hcz51_0, hcz51_1, hfz51_0, hfz51_1⟩ := sqc2 BK739)); try go_wp2_with (first | (go_at_call 190; (with_reducible refine (ih kj2 (by have := HJ2.out; omega) a1_0 a1_1 a0_0 a0_1 t743 t744 t745 _ A44.out).mono ?_); rintro e w50 ⟨rfl, hb⟩; refine sqM3 BK737 BK738 BK739 hb ?_; clear BK737 BK738 BK739; intro BK737 BK738 BK739; replace HB := sqs HB hb; (try clear hb); obtain ⟨hcz51_0, hcz51_1, hfz51_0, hfz51_1⟩ := sqc2 BK739)))
    refine bodyPost_ret (results_ct rfl _ _ gb739 26 #[.int .i64 t743, .int .i64 t744] (0, 0) _ rfl (sqP BK739) Try.underlying26 rfl (by kernel_rfl)) rfl ?_
    exact sqe HB
   have c43b0 : (a1_0 == 0) = false := beq_eq_false_iff_ne.mpr c43
   have c43b1 : (a1_0 != 0) = true := bne_iff_ne.mpr c43
   replace H := sqbi H
   obtain ⟨t746, A52, H⟩ := H
   try dsimp only at H
   replace H := sqbi H
   obtain ⟨t747, A53, H⟩ := H
   try dsimp only at H
   replace H := sqi H
   rcases H with ⟨c54, H⟩ | ⟨c54, H⟩
   ·have c54b0 : (t747 == 0) = false := beq_eq_false_iff_ne.mpr c54
    have c54b1 : (t747 != 0) = true := bne_iff_ne.mpr c54
    simp only [Option.some.injEq, Prod.mk.injEq] at H
    obtain ⟨rfl, rfl, rfl⟩ := H
    obtain ⟨hnb87, hnc87, hnb88, hnc88⟩ := sqN2 NB737_738 NB737_739
    obtain ⟨hcz89_0, hcz89_1, hfz89_0, hfz89_1⟩ := sqc2 BK737
    obtain ⟨hnb90, hnc90⟩ := sqN1 NB738_739
    obtain ⟨hcz91_0, hcz91_1, hfz91_0, hfz91_1⟩ := sqc2 BK738
    go_wp2_with (first | (go_at_call 156; (with_reducible refine (spec_l9Gcd.calls kj2 a0_0 a1_0 t746 _ A52.out).mono ?_); rintro e w' ⟨rfl, ⟨nd, rfl⟩⟩; (try first | exact ⟨rfl, _, World.drewN_drewN _ _ _⟩ | exact ⟨rfl, _, sqda⟩)) | (go_at_call 102; (with_reducible refine (spec_l1Mod.calls (wrap64 (a0_1 - a1_1)) t746 t747 _ A53.out).mono ?_); rintro e w' ⟨rfl, ⟨nd, rfl⟩⟩; (try first | exact ⟨rfl, _, World.drewN_drewN _ _ _⟩ | exact ⟨rfl, _, sqda⟩); obtain ⟨hcz92_0, hcz92_1, hfz92_0, hfz92_1⟩ := sqc2 BK739))
    repeat (go_quiet (first | (go_at_call 156; (with_reducible refine (spec_l9Gcd.calls kj2 a0_0 a1_0 t746 _ A52.out).mono ?_); rintro e w' ⟨rfl, ⟨nd, rfl⟩⟩; (try first | exact ⟨rfl, _, World.drewN_drewN _ _ _⟩ | exact ⟨rfl, _, sqda⟩)) | (go_at_call 102; (with_reducible refine (spec_l1Mod.calls (wrap64 (a0_1 - a1_1)) t746 t747 _ A53.out).mono ?_); rintro e w' ⟨rfl, ⟨nd, rfl⟩⟩; (try first | exact ⟨rfl, _, World.drewN_drewN _ _ _⟩ | exact ⟨rfl, _, sqda⟩); obtain ⟨hcz92_0, hcz92_1, hfz92_0, hfz92_1⟩ := sqc2 BK739)); try go_wp2_with (first | (go_at_call 156; (with_reducible refine (spec_l9Gcd.calls kj2 a0_0 a1_0 t746 _ A52.out).mono ?_); rintro e w' ⟨rfl, ⟨nd, rfl⟩⟩; (try first | exact ⟨rfl, _, World.drewN_drewN _ _ _⟩ | exact ⟨rfl, _, sqda⟩)) | (go_at_call 102; (with_reducible refine (spec_l1Mod.calls (wrap64 (a0_1 - a1_1)) t746 t747 _ A53.out).mono ?_); rintro e w' ⟨rfl, ⟨nd, rfl⟩⟩; (try first | exact ⟨rfl, _, World.drewN_drewN _ _ _⟩ | exact ⟨rfl, _, sqda⟩); obtain ⟨hcz92_0, hcz92_1, hfz92_0, hfz92_1⟩ := sqc2 BK739)))
    refine bodyPost_ret (results_ct rfl _ _ gb739 26 #[.int .i64 0, .int .i64 0] (0, 0) _ rfl (sqP BK739) Try.underlying26 rfl (by kernel_rfl)) rfl ?_
    exact sqe HB
   have c54b0 : (t747 == 0) = true := beq_iff_eq.mpr c54
   have c54b1 : (t747 != 0) = false := bne_eq_false_iff_eq.mpr c54
   clear c54
   replace H := sqj H
   rcases H with ⟨c55, H⟩ | ⟨c55, H⟩
   ·exact absurd H (by simp)
   have c55b0 : (t746 == 0) = false := beq_eq_false_iff_ne.mpr c55
   have c55b1 : (t746 != 0) = true := bne_iff_ne.mpr c55
   replace H := sqj H
   rcases H with ⟨c56, H⟩ | ⟨c56, H⟩
   ·have c56b0 : decide (65536 < (wrap64 ((wrap64 (Int.tdiv a0_0 t746)) * a1_0))) = true := decide_eq_true c56
    clear c56
    replace H := sqj H
    rcases H with ⟨c57, H⟩ | ⟨c57, H⟩
    ·have c57b0 : decide (a0_0 < a1_0) = true := decide_eq_true c57
     clear c57
     simp only [Option.some.injEq, Prod.mk.injEq] at H
     obtain ⟨rfl, rfl, rfl⟩ := H
     obtain ⟨hnb58, hnc58, hnb59, hnc59⟩ := sqN2 NB737_738 NB737_739
     obtain ⟨hcz60_0, hcz60_1, hfz60_0, hfz60_1⟩ := sqc2 BK737
     obtain ⟨hnb61, hnc61⟩ := sqN1 NB738_739
     obtain ⟨hcz62_0, hcz62_1, hfz62_0, hfz62_1⟩ := sqc2 BK738
     go_wp2_with (first | (go_at_call 156; (with_reducible refine (spec_l9Gcd.calls kj2 a0_0 a1_0 t746 _ A52.out).mono ?_); rintro e w' ⟨rfl, ⟨nd, rfl⟩⟩; (try first | exact ⟨rfl, _, World.drewN_drewN _ _ _⟩ | exact ⟨rfl, _, sqda⟩)) | (go_at_call 102; (with_reducible refine (spec_l1Mod.calls (wrap64 (a0_1 - a1_1)) t746 t747 _ A53.out).mono ?_); rintro e w' ⟨rfl, ⟨nd, rfl⟩⟩; (try first | exact ⟨rfl, _, World.drewN_drewN _ _ _⟩ | exact ⟨rfl, _, sqda⟩); obtain ⟨hcz63_0, hcz63_1, hfz63_0, hfz63_1⟩ := sqc2 BK739))
     repeat (go_quiet (first | (go_at_call 156; (with_reducible refine (spec_l9Gcd.calls kj2 a0_0 a1_0 t746 _ A52.out).mono ?_); rintro e w' ⟨rfl, ⟨nd, rfl⟩⟩; (try first | exact ⟨rfl, _, World.drewN_drewN _ _ _⟩ | exact ⟨rfl, _, sqda⟩)) | (go_at_call 102; (with_reducible refine (spec_l1Mod.calls (wrap64 (a0_1 - a1_1)) t746 t747 _ A53.out).mono ?_); rintro e w' ⟨rfl, ⟨nd, rfl⟩⟩; (try first | exact ⟨rfl, _, World.drewN_drewN _ _ _⟩ | exact ⟨rfl, _, sqda⟩); obtain ⟨hcz63_0, hcz63_1, hfz63_0, hfz63_1⟩ := sqc2 BK739)); try go_wp2_with (first | (go_at_call 156; (with_reducible refine (spec_l9Gcd.calls kj2 a0_0 a1_0 t746 _ A52.out).mono ?_); rintro e w' ⟨rfl, ⟨nd, rfl⟩⟩; (try first | exact ⟨rfl, _, World.drewN_drewN _ _ _⟩ | exact ⟨rfl, _, sqda⟩)) | (go_at_call 102; (with_reducible refine (spec_l1Mod.calls (wrap64 (a0_1 - a1_1)) t746 t747 _ A53.out).mono ?_); rintro e w' ⟨rfl, ⟨nd, rfl⟩⟩; (try first | exact ⟨rfl, _, World.drewN_drewN _ _ _⟩ | exact ⟨rfl, _, sqda⟩); obtain ⟨hcz63_0, hcz63_1, hfz63_0, hfz63_1⟩ := sqc2 BK739)))
     refine bodyPost_ret (results_ct rfl _ _ gb739 26 #[.int .i64 a1_0, .int .i64 a1_1] (0, 0) _ rfl (sqP BK739) Try.underlying26 rfl (by kernel_rfl)) rfl ?_
     exact sqe HB
    have c57b0 : decide (a0_0 < a1_0) = false := decide_eq_false c57
    clear c57
    simp only [Option.some.injEq, Prod.mk.injEq] at H
    obtain ⟨rfl, rfl, rfl⟩ := H
    obtain ⟨hnb64, hnc64, hnb65, hnc65⟩ := sqN2 NB737_738 NB737_739
    obtain ⟨hcz66_0, hcz66_1, hfz66_0, hfz66_1⟩ := sqc2 BK737
    obtain ⟨hnb67, hnc67⟩ := sqN1 NB738_739
    obtain ⟨hcz68_0, hcz68_1, hfz68_0, hfz68_1⟩ := sqc2 BK738
    go_wp2_with (first | (go_at_call 156; (with_reducible refine (spec_l9Gcd.calls kj2 a0_0 a1_0 t746 _ A52.out).mono ?_); rintro e w' ⟨rfl, ⟨nd, rfl⟩⟩; (try first | exact ⟨rfl, _, World.drewN_drewN _ _ _⟩ | exact ⟨rfl, _, sqda⟩)) | (go_at_call 102; (with_reducible refine (spec_l1Mod.calls (wrap64 (a0_1 - a1_1)) t746 t747 _ A53.out).mono ?_); rintro e w' ⟨rfl, ⟨nd, rfl⟩⟩; (try first | exact ⟨rfl, _, World.drewN_drewN _ _ _⟩ | exact ⟨rfl, _, sqda⟩); obtain ⟨hcz69_0, hcz69_1, hfz69_0, hfz69_1⟩ := sqc2 BK739))
    repeat (go_quiet (first | (go_at_call 156; (with_reducible refine (spec_l9Gcd.calls kj2 a0_0 a1_0 t746 _ A52.out).mono ?_); rintro e w' ⟨rfl, ⟨nd, rfl⟩⟩; (try first | exact ⟨rfl, _, World.drewN_drewN _ _ _⟩ | exact ⟨rfl, _, sqda⟩)) | (go_at_call 102; (with_reducible refine (spec_l1Mod.calls (wrap64 (a0_1 - a1_1)) t746 t747 _ A53.out).mono ?_); rintro e w' ⟨rfl, ⟨nd, rfl⟩⟩; (try first | exact ⟨rfl, _, World.drewN_drewN _ _ _⟩ | exact ⟨rfl, _, sqda⟩); obtain ⟨hcz69_0, hcz69_1, hfz69_0, hfz69_1⟩ := sqc2 BK739)); try go_wp2_with (first | (go_at_call 156; (with_reducible refine (spec_l9Gcd.calls kj2 a0_0 a1_0 t746 _ A52.out).mono ?_); rintro e w' ⟨rfl, ⟨nd, rfl⟩⟩; (try first | exact ⟨rfl, _, World.drewN_drewN _ _ _⟩ | exact ⟨rfl, _, sqda⟩)) | (go_at_call 102; (with_reducible refine (spec_l1Mod.calls (wrap64 (a0_1 - a1_1)) t746 t747 _ A53.out).mono ?_); rintro e w' ⟨rfl, ⟨nd, rfl⟩⟩; (try first | exact ⟨rfl, _, World.drewN_drewN _ _ _⟩ | exact ⟨rfl, _, sqda⟩); obtain ⟨hcz69_0, hcz69_1, hfz69_0, hfz69_1⟩ := sqc2 BK739)))
    refine bodyPost_ret (results_ct rfl _ _ gb739 26 #[.int .i64 a0_0, .int .i64 a0_1] (0, 0) _ rfl (sqP BK739) Try.underlying26 rfl (by kernel_rfl)) rfl ?_
    exact sqe HB
   have c56b0 : decide (65536 < (wrap64 ((wrap64 (Int.tdiv a0_0 t746)) * a1_0))) = false := decide_eq_false c56
   clear c56
   have H' := Aside0.mk H
   clear H
   obtain ⟨hnb70, hnc70, hnb71, hnc71⟩ := sqN2 NB737_738 NB737_739
   obtain ⟨hcz72_0, hcz72_1, hfz72_0, hfz72_1⟩ := sqc2 BK737
   obtain ⟨hnb73, hnc73⟩ := sqN1 NB738_739
   obtain ⟨hcz74_0, hcz74_1, hfz74_0, hfz74_1⟩ := sqc2 BK738
   go_wp2_with (first | (go_at_call 156; (with_reducible refine (spec_l9Gcd.calls kj2 a0_0 a1_0 t746 _ A52.out).mono ?_); rintro e w' ⟨rfl, ⟨nd, rfl⟩⟩; (try first | exact ⟨rfl, _, World.drewN_drewN _ _ _⟩ | exact ⟨rfl, _, sqda⟩)) | (go_at_call 102; (with_reducible refine (spec_l1Mod.calls (wrap64 (a0_1 - a1_1)) t746 t747 _ A53.out).mono ?_); rintro e w' ⟨rfl, ⟨nd, rfl⟩⟩; (try first | exact ⟨rfl, _, World.drewN_drewN _ _ _⟩ | exact ⟨rfl, _, sqda⟩)))
   repeat (go_quiet (first | (go_at_call 156; (with_reducible refine (spec_l9Gcd.calls kj2 a0_0 a1_0 t746 _ A52.out).mono ?_); rintro e w' ⟨rfl, ⟨nd, rfl⟩⟩; (try first | exact ⟨rfl, _, World.drewN_drewN _ _ _⟩ | exact ⟨rfl, _, sqda⟩)) | (go_at_call 102; (with_reducible refine (spec_l1Mod.calls (wrap64 (a0_1 - a1_1)) t746 t747 _ A53.out).mono ?_); rintro e w' ⟨rfl, ⟨nd, rfl⟩⟩; (try first | exact ⟨rfl, _, World.drewN_drewN _ _ _⟩ | exact ⟨rfl, _, sqda⟩))); try go_wp2_with (first | (go_at_call 156; (with_reducible refine (spec_l9Gcd.calls kj2 a0_0 a1_0 t746 _ A52.out).mono ?_); rintro e w' ⟨rfl, ⟨nd, rfl⟩⟩; (try first | exact ⟨rfl, _, World.drewN_drewN _ _ _⟩ | exact ⟨rfl, _, sqda⟩)) | (go_at_call 102; (with_reducible refine (spec_l1Mod.calls (wrap64 (a0_1 - a1_1)) t746 t747 _ A53.out).mono ?_); rintro e w' ⟨rfl, ⟨nd, rfl⟩⟩; (try first | exact ⟨rfl, _, World.drewN_drewN _ _ _⟩ | exact ⟨rfl, _, sqda⟩))))
   go_loopg [8] kj2 (fun kq v8 w' => ∃ (x8_2 : Int), v8 = .int .i64 x8_2 ∧ Aside0 (spec_RestMeet.l0 kq (wrap64 ((wrap64 (Int.tdiv a0_0 t746)) * a1_0)) x8_2 a0_0 a0_1 a1_0 a1_1 = some (r1, r2, r3)) ∧ Aside0 (kq ≤ kj2) ∧ Aside0 (w'.heap[gb737]? = some (.cells #[.int .i64 a0_0, .int .i64 a0_1] 26 (0, 0))) ∧ Aside0 (w'.heap[gb738]? = some (.cells #[.int .i64 a1_0, .int .i64 a1_1] 26 (0, 0))) ∧ Aside0 (w'.heap[gb739]? = some (.cells #[.int .i64 0, .int .i64 0] 26 (0, 0))) ∧ Aside0 (Below w.heap.size w w'))
   case atStart => exact ⟨(a0_1), (by first | rfl | (simp; done) | (simp [*]; done)), H', ⟨Nat.le_refl _⟩, sqk BK737, sqk BK738, sqk BK739, sqh HB⟩
   case round =>
    clear H'
    obtain ⟨x8_2, rfl, HA, HK2, BK737, BK738, BK739, HB⟩ := hrel
    cases gk with
    | zero => exact absurd HA.out (by simp [spec_RestMeet.l0])
    | succ k2 =>
     have H := HA.out
     clear HA
     simp only [spec_RestMeet.l0] at H
     replace H := sqbi H
     obtain ⟨t748, A75, H⟩ := H
     try dsimp only at H
     replace H := sqi H
     rcases H with ⟨c76, H⟩ | ⟨c76, H⟩
     ·have c76b0 : (t748 == a1_1) = false := beq_eq_false_iff_ne.mpr c76
      have c76b1 : (t748 != a1_1) = true := bne_iff_ne.mpr c76
      have H' := Aside0.mk H
      clear H
      obtain ⟨hnb82, hnc82, hnb83, hnc83⟩ := sqN2 NB738_737 NB738_739
      obtain ⟨hcz84_0, hcz84_1, hfz84_0, hfz84_1⟩ := sqc2 BK738
      go_wp2_with (first | (go_at_call 102; (with_reducible refine (spec_l1Mod.calls x8_2 a1_0 t748 _ A75.out).mono ?_); rintro e w' ⟨rfl, ⟨nd, rfl⟩⟩; (try first | exact ⟨rfl, _, World.drewN_drewN _ _ _⟩ | exact ⟨rfl, _, sqda⟩); obtain ⟨hnb85, hnc85⟩ := sqN1 NB737_739; obtain ⟨hcz86_0, hcz86_1, hfz86_0, hfz86_1⟩ := sqc2 BK737))
      repeat (go_quiet (first | (go_at_call 102; (with_reducible refine (spec_l1Mod.calls x8_2 a1_0 t748 _ A75.out).mono ?_); rintro e w' ⟨rfl, ⟨nd, rfl⟩⟩; (try first | exact ⟨rfl, _, World.drewN_drewN _ _ _⟩ | exact ⟨rfl, _, sqda⟩); obtain ⟨hnb85, hnc85⟩ := sqN1 NB737_739; obtain ⟨hcz86_0, hcz86_1, hfz86_0, hfz86_1⟩ := sqc2 BK737)); try go_wp2_with (first | (go_at_call 102; (with_reducible refine (spec_l1Mod.calls x8_2 a1_0 t748 _ A75.out).mono ?_); rintro e w' ⟨rfl, ⟨nd, rfl⟩⟩; (try first | exact ⟨rfl, _, World.drewN_drewN _ _ _⟩ | exact ⟨rfl, _, sqda⟩); obtain ⟨hnb85, hnc85⟩ := sqN1 NB737_739; obtain ⟨hcz86_0, hcz86_1, hfz86_0, hfz86_1⟩ := sqc2 BK737)))
      go_roundg k2
      case measure => have := HJ2.out; have := HK2.out; omega
      case rel => exact ⟨(wrap64 (x8_2 + a0_0)), (by first | rfl | (simp; done) | (simp [*]; done)), H', ⟨by have := HJ2.out; have := HK2.out; omega⟩, sqk BK737, sqk BK738, sqk BK739, sqh HB⟩
     have c76b0 : (t748 == a1_1) = true := beq_iff_eq.mpr c76
     have c76b1 : (t748 != a1_1) = false := bne_eq_false_iff_eq.mpr c76
     clear c76
     simp only [Option.some.injEq, Prod.mk.injEq] at H
     obtain ⟨rfl, rfl, rfl⟩ := H
     obtain ⟨hnb77, hnc77, hnb78, hnc78⟩ := sqN2 NB738_737 NB738_739
     obtain ⟨hcz79_0, hcz79_1, hfz79_0, hfz79_1⟩ := sqc2 BK738
     go_wp2_with (first | (go_at_call 102; (with_reducible refine (spec_l1Mod.calls x8_2 a1_0 t748 _ A75.out).mono ?_); rintro e w' ⟨rfl, ⟨nd, rfl⟩⟩; (try first | exact ⟨rfl, _, World.drewN_drewN _ _ _⟩ | exact ⟨rfl, _, sqda⟩); obtain ⟨hnb80, hnc80⟩ := sqN1 NB739_737; obtain ⟨hcz81_0, hcz81_1, hfz81_0, hfz81_1⟩ := sqc2 BK739))
     repeat (go_quiet (first | (go_at_call 102; (with_reducible refine (spec_l1Mod.calls x8_2 a1_0 t748 _ A75.out).mono ?_); rintro e w' ⟨rfl, ⟨nd, rfl⟩⟩; (try first | exact ⟨rfl, _, World.drewN_drewN _ _ _⟩ | exact ⟨rfl, _, sqda⟩); obtain ⟨hnb80, hnc80⟩ := sqN1 NB739_737; obtain ⟨hcz81_0, hcz81_1, hfz81_0, hfz81_1⟩ := sqc2 BK739)); try go_wp2_with (first | (go_at_call 102; (with_reducible refine (spec_l1Mod.calls x8_2 a1_0 t748 _ A75.out).mono ?_); rintro e w' ⟨rfl, ⟨nd, rfl⟩⟩; (try first | exact ⟨rfl, _, World.drewN_drewN _ _ _⟩ | exact ⟨rfl, _, sqda⟩); obtain ⟨hnb80, hnc80⟩ := sqN1 NB739_737; obtain ⟨hcz81_0, hcz81_1, hfz81_0, hfz81_1⟩ := sqc2 BK739)))
     refine bodyPost_ret (results_ct rfl _ _ gb739 26 #[.int .i64 (wrap64 ((wrap64 (Int.tdiv a0_0 t746)) * a1_0)), .int .i64 x8_2] (0, 0) _ rfl (sqP BK739) Try.underlying26 rfl (by kernel_rfl)) rfl ?_
     exact sqe HB

end Go.Proofs.Ytkekcenlleebeaa.PFnValLattice
