/- Functions of the program as plain Lean functions, and that calls of them come to what these tell. Conditions: those in each law. -/
import Derived.Test.YtkekcenlleebeaaSq
import Derived.Test.YtkekcenlleebeaaDFnValLattice
import Derived.Test.YtkekcenlleebeaaQFnValLatticex0
import Derived.Test.YtkekcenlleebeaaQFnValLatticex3
import Derived.Test.YtkekcenlleebeaaQFnValLatticex7
import Derived.Test.YtkekcenlleebeaaQFnValLatticex9
import Derived.Test.YtkekcenlleebeaaQFnValLatticex10
import Derived.Test.YtkekcenlleebeaaQFnValLatticex11
import Derived.Test.YtkekcenlleebeaaQFnValLatticex27
import Derived.Test.YtkekcenlleebeaaQFnValLatticex28
namespace Go.Proofs.Ytkekcenlleebeaa.PFnValLattice
open Go.RowKit Go.Proofs.Ytkekcenlleebeaa.Sq Go.Proofs.YtkekcenlleebeaaW.PrintWords Go.Proofs.YtkekcenlleebeaaW.PrintLast Go.Proofs.YtkekcenlleebeaaW.PrintMore
attribute [local go_sem] max2_int min2_int max_two min_two max_three min_three max_four min_four   -- for this text's walks alone
set_option linter.unusedVariables false
set_option linter.unusedSimpArgs false

attribute [local go_sem high] eqA30
/-! ### spec_ValJoin: function 89 -/
def spec_ValJoin.T7 : Bool × List (List Nat × List Nat) := (true, [([], []), ([0], [0]), ([], []), ([2, 1], [2]), ([1, 3, 3], [1, 3]), ([], []), ([5, 4], [5]), ([], []), ([7, 6], [7]), ([6, 8, 8], [6, 8]), ([4, 9, 9], [4, 9]), ([10, 10, 0, 1, 2, 3, 4, 5, 6, 7, 8, 9, 10], [10])])
def spec_ValJoin.B7 : List Nat := [0, 1, 0, 7, 15, 0, 63, 0, 255, 511, 1023, 2047]
theorem spec_ValJoin.tab7 : rtab .any (opsOf Try.f89 7) = spec_ValJoin.T7 := by kernel_rfl
theorem spec_ValJoin.bits7 : waitsOk spec_ValJoin.T7.2 spec_ValJoin.B7 = true := by kernel_rfl
set_option maxHeartbeats 8000000 in
set_option maxRecDepth 100000 in
theorem spec_ValJoin.calls (k : Nat) (a0_0 : Int) (a0_1 : Int) (a0_2 : Int) (a0_3 : Int) (a1_0 : Int) (a1_1 : Int) (a1_2 : Int) (a1_3 : Int) (r1 : Int) (r2 : Int) (r3 : Int) (r4 : Int) (w : World) (h : spec_ValJoin.f k a0_0 a0_1 a0_2 a0_3 a1_0 a1_1 a1_2 a1_3 = some (r1, r2, r3, r4)) :
  Calls Try.prog 89 #[.agg #[.int .i64 a0_0, .int .i64 a0_1, .int .i64 a0_2, .int .i64 a0_3], .agg #[.int .i64 a1_0, .int .i64 a1_1, .int .i64 a1_2, .int .i64 a1_3]] w fun e w' => e = .returned (.agg #[.int .i64 r1, .int .i64 r2, .int .i64 r3, .int .i64 r4]) ∧ Below w.heap.size w w' := by
 have hu30 := Try.underlying30
 have HB := Aside0.mk (Below.refl w.heap.size w)
 have H := h
 unfold spec_ValJoin.f at H
 clear h
 have HC3 := Aside0.mk H
 clear H
 go_enter Try.func89, Try.ntmps89
 go_upto_region 1 with (first | ((with_reducible refine gate_dst (N := 2) rfl ?_); refine sqx 2 #[.int .i64 a0_0, .int .i64 a0_1, .int .i64 a0_2, .int .i64 a0_3] 30 ?_; intro gb689 hg w4 hbox hb; have BK689 := Aside0.mk hbox; have GW689 := sqg HB hg; replace HB := sqs HB hb; clear hb hbox hg) | ((with_reducible refine gate_dst (N := 3) rfl ?_); refine sqx 3 #[.int .i64 a1_0, .int .i64 a1_1, .int .i64 a1_2, .int .i64 a1_3] 30 ?_; intro gb690 hg w5 hbox hb; have BK690 := Aside0.mk hbox; have GW690 := sqg HB hg; have NB689_690 := sqn BK689 hg; have NB690_689 := sqm BK689 hg; replace BK689 := sqb BK689 hb; replace HB := sqs HB hb; clear hb hbox hg) | ((with_reducible refine gate_dst (N := 4) rfl ?_); refine sqx 4 #[.int .i64 0, .int .i64 0, .int .i64 0, .int .i64 0] 30 ?_; intro gb691 hg w6 hbox hb; have BK691 := Aside0.mk hbox; have GW691 := sqg HB hg; have NB689_691 := sqn BK689 hg; have NB691_689 := sqm BK689 hg; have NB690_691 := sqn BK690 hg; have NB691_690 := sqm BK690 hg; refine sqM2 BK689 BK690 hb ?_; clear BK689 BK690; intro BK689 BK690; replace HB := sqs HB hb; clear hb hbox hg))
 (try simp only [Act.put, List.setIfInBounds_toArray, List.set_cons_zero, List.set_cons_succ])
 go_cut [12] (fun v12 wc => ∃ (kq : Nat) (x12_2 : Bool), v12 = .bool x12_2 ∧ Aside0 (spec_ValJoin.j0 kq x12_2 a0_0 a0_1 a0_2 a0_3 a1_0 a1_1 a1_2 a1_3 = some (r1, r2, r3, r4)) ∧ Aside0 (kq ≤ k) ∧ Aside0 (wc.heap[gb689]? = some (.cells #[.int .i64 a0_0, .int .i64 a0_1, .int .i64 a0_2, .int .i64 a0_3] 30 (0, 0))) ∧ Aside0 (wc.heap[gb690]? = some (.cells #[.int .i64 a1_0, .int .i64 a1_1, .int .i64 a1_2, .int .i64 a1_3] 30 (0, 0))) ∧ Aside0 (wc.heap[gb691]? = some (.cells #[.int .i64 0, .int .i64 0, .int .i64 0, .int .i64 0] 30 (0, 0))) ∧ Aside0 (Below w.heap.size w wc))
 case first =>
  have H := HC3.out
  clear HC3
  replace H := sqbi H
  obtain ⟨t692, A7, H⟩ := H
  try dsimp only at H
  rcases sqI (t692 = true) with c8 | c8
  ·replace c8 := Bool.eq_false_iff.mpr c8
   subst c8
   have H1 : (spec_ValJoin.j0 k true a0_0 a0_1 a0_2 a0_3 a1_0 a1_1 a1_2 a1_3) = some (r1, r2, r3, r4) := by rw [if_neg (show ¬ (false = true) by decide)] at H; exact H
   clear H
   have H := H1
   clear H1
   have H' := Aside0.mk H
   clear H
   obtain ⟨_, _, _, _⟩ := sqN2 NB689_690 NB689_691
   obtain ⟨_, _, _, _, _, _, _, _⟩ := sqc4 BK689
   go_wp2_with (first | ((with_reducible refine gate_callee (f := 80) rfl ?_); refine sqL (some 6) Try.func80 #[.agg #[.int .i64 a0_0, .int .i64 a0_1, .int .i64 a0_2, .int .i64 a0_3]] ?_; (with_reducible refine (spec_ValOk.calls k a0_0 a0_1 a0_2 a0_3 false _ A7.out).mono ?_); rintro e w20 ⟨rfl, hb⟩; refine ⟨_, rfl, ?_⟩; refine sqM3 BK689 BK690 BK691 hb ?_; clear BK689 BK690 BK691; intro BK689 BK690 BK691; replace HB := sqs HB hb; (try clear hb)))
   go_meet
   case rel => exact ⟨_, (true), (by first | rfl | (simp; done) | (simp [*]; done)), H', ⟨by first | omega | exact Nat.le_refl _⟩, sqk BK689, sqk BK690, sqk BK691, sqh HB⟩
  subst c8
  have H1 : ((spec_ValOk.f k a1_0 a1_1 a1_2 a1_3).bind fun t693 => (spec_ValJoin.j0 k (!t693) a0_0 a0_1 a0_2 a0_3 a1_0 a1_1 a1_2 a1_3)) = some (r1, r2, r3, r4) := by rw [if_pos rfl] at H; exact H
  clear H
  have H := H1
  clear H1
  replace H := sqbi H
  obtain ⟨t693, A9, H⟩ := H
  try dsimp only at H
  have H' := Aside0.mk H
  clear H
  obtain ⟨_, _, _, _⟩ := sqN2 NB689_690 NB689_691
  obtain ⟨_, _, _, _, _, _, _, _⟩ := sqc4 BK689
  go_wp2_with (first | ((with_reducible refine gate_callee (f := 80) rfl ?_); refine sqL (some 6) Try.func80 #[.agg #[.int .i64 a0_0, .int .i64 a0_1, .int .i64 a0_2, .int .i64 a0_3]] ?_; (with_reducible refine (spec_ValOk.calls k a0_0 a0_1 a0_2 a0_3 true _ A7.out).mono ?_); rintro e w13 ⟨rfl, hb⟩; refine ⟨_, rfl, ?_⟩; refine sqM3 BK689 BK690 BK691 hb ?_; clear BK689 BK690 BK691; intro BK689 BK690 BK691; replace HB := sqs HB hb; (try clear hb); obtain ⟨_, _⟩ := sqN1 NB690_691; obtain ⟨_, _, _, _, _, _, _, _⟩ := sqc4 BK690) | (go_at_call 80; (with_reducible refine (spec_ValOk.calls k a1_0 a1_1 a1_2 a1_3 t693 _ A9.out).mono ?_); rintro e w16 ⟨rfl, hb⟩; refine sqM3 BK689 BK690 BK691 hb ?_; clear BK689 BK690 BK691; intro BK689 BK690 BK691; replace HB := sqs HB hb; (try clear hb)))
  go_meet
  case rel => exact ⟨_, (!t693), (by first | rfl | (simp; done) | (simp [*]; done)), H', ⟨by first | omega | exact Nat.le_refl _⟩, sqk BK689, sqk BK690, sqk BK691, sqh HB⟩
 case rest =>
  clear HC3
  obtain ⟨kq, x12_2, rfl, HA, HJ2, BK689, BK690, BK691, HB⟩ := hcut
  cases kq with
  | zero => exact absurd HA.out (by simp [spec_ValJoin.j0])
  | succ kj2 =>
   have H := HA.out
   clear HA
   simp only [spec_ValJoin.j0] at H
   by_cases c21 : x12_2 = true
   ·subst c21
    have H1 : ((spec_l10None.f).bind fun bt694 => (some (bt694.1, bt694.2.1, bt694.2.2.1, bt694.2.2.2))) = some (r1, r2, r3, r4) := by rw [if_pos rfl] at H; exact H
    clear H
    have H := H1
    clear H1
    replace H := sqbi H
    obtain ⟨⟨t694, t695, t696, t697⟩, A22, H⟩ := H
    try dsimp only at H
    simp only [Option.some.injEq, Prod.mk.injEq] at H
    obtain ⟨rfl, rfl, rfl, rfl⟩ := H
    go_wp2_with (first | ((with_reducible refine gate_callee (f := 100) rfl ?_); refine sqL (some 13) Try.func100 #[] ?_; (with_reducible refine (spec_l10None.calls  t694 t695 t696 t697 _ A22.out).mono ?_); rintro e w23 ⟨rfl, hb⟩; refine ⟨_, rfl, ?_⟩; refine sqM3 BK689 BK690 BK691 hb ?_; clear BK689 BK690 BK691; intro BK689 BK690 BK691; replace HB := sqs HB hb; (try clear hb); obtain ⟨_, _, _, _⟩ := sqN2 NB691_689 NB691_690; obtain ⟨_, _, _, _, _, _, _, _⟩ := sqc4 BK691))
    refine bodyPost_ret (results_cell_row rfl _ _ gb691 30 #[.int .i64 t694, .int .i64 t695, .int .i64 t696, .int .i64 t697] (0, 0) _ rfl (sqP BK691) Try.underlying30 rfl (by kernel_rfl)) rfl ?_
    exact sqe HB
   replace c21 := Bool.eq_false_iff.mpr c21
   subst c21
   have H1 : ((spec_l10None.f).bind fun bt698 => (if (a0_0 == bt698.1 && (a0_1 == bt698.2.1 && (a0_2 == bt698.2.2.1 && (a0_3 == bt698.2.2.2)))) = true then (some (a1_0, a1_1, a1_2, a1_3)) else ((spec_l10None.f).bind fun bt702 => (if (a1_0 == bt702.1 && (a1_1 == bt702.2.1 && (a1_2 == bt702.2.2.1 && (a1_3 == bt702.2.2.2)))) = true then (some (a0_0, a0_1, a0_2, a0_3)) else ((spec_l10Range.f a0_0 a0_1 a0_2 a0_3).bind fun bt706 => ((spec_l10Range.f a1_0 a1_1 a1_2 a1_3).bind fun bt708 => ((spec_RangeJoin.f kj2 bt706.1 bt706.2 bt708.1 bt708.2).bind fun bt710 => ((spec_l10Rest.f a0_0 a0_1 a0_2 a0_3).bind fun bt712 => ((spec_l10Rest.f a1_0 a1_1 a1_2 a1_3).bind fun bt714 => ((spec_RestJoin.f kj2 bt712.1 bt712.2 bt714.1 bt714.2).bind fun bt716 => ((spec_ValMake.f kj2 bt710.1 bt710.2 bt716.1 bt716.2).bind fun bt718 => (some (bt718.1, bt718.2.1, bt718.2.2.1, bt718.2.2.2))))))))))))) = some (r1, r2, r3, r4) := by rw [if_neg (show ¬ (false = true) by decide)] at H; exact H
   clear H
   have H := H1
   clear H1
   replace H := sqbi H
   obtain ⟨⟨t698, t699, t700, t701⟩, A27, H⟩ := H
   try dsimp only at H
   replace H := sqj H
   rcases H with ⟨c28, H⟩ | ⟨c28, H⟩
   ·have c28b0 : (a0_0 == t698 && (a0_1 == t699 && (a0_2 == t700 && (a0_3 == t701)))) = true := c28
    (try (have c28b1 : decide (a0_0 = t698 && (a0_1 == t699 && (a0_2 == t700 && (a0_3 == t701)))) = true := by simpa using c28))
    (try (have c28b2 : (a0_0 == t698 && (a0_1 == t699 && (a0_2 == t700 && (a0_3 == t701)))) = true := by simpa using c28))
    clear c28
    simp only [Option.some.injEq, Prod.mk.injEq] at H
    obtain ⟨rfl, rfl, rfl, rfl⟩ := H
    try go_wp2
    replace BK689 := sqdr BK689
    replace BK690 := sqdr BK690
    replace BK691 := sqdr BK691
    replace HB := sqdB HB
    refine sqst 3 (fun w' => w'.cell? ⟨gb689, 0, none⟩ = some (.int .i64 a0_0) ∧ w'.cell? ⟨gb689, 1, none⟩ = some (.int .i64 a0_1) ∧ w'.cell? ⟨gb689, 2, none⟩ = some (.int .i64 a0_2) ∧ w'.cell? ⟨gb689, 3, none⟩ = some (.int .i64 a0_3)) sqz (fun hHeld => ?_)
    generalize wc.drew = w29 at BK689 BK690 BK691 HB hHeld ⊢
    refine take_ (i := 0) (N := some 14) (v := ?_) (a' := ?_) #[true, false, false] rfl rfl (by kernel_rfl) (fun _ _ _ h => h) (Or.inl ⟨by rfl, ?_⟩) hHeld ?_ ?_
    rotate_left
    ·rintro w' ⟨s0, s1, s2, s3⟩
     go_simp
     with_reducible rfl
    rotate_left
    ·simp only [Act.put, List.setIfInBounds_toArray, List.set_cons_zero, List.set_cons_succ, i64_w, i32_w]
     rfl
    refine one_ (i := 1) (N := some 15) #[true, true, false] rfl rfl (by kernel_rfl) (by decide) (fun K hK => ?_)
    refine sqG Try.func100 #[] ?_
    with_reducible refine (spec_l10None.calls  t698 t699 t700 t701 _ A27.out).mono ?_
    rintro e w30 ⟨rfl, hb⟩
    refine ⟨_, rfl, ?_⟩
    refine sqM3 BK689 BK690 BK691 hb ?_; clear BK689 BK690 BK691; intro BK689 BK690 BK691
    replace HB := sqs HB hb
    (try clear hb)
    refine hK.out _ _ sqz (fun hHeld => ?_)
    clear hK K
    refine sqnm ?_
    refine pure_ (i := 2) (N := some 16) (v := ?_) (a' := ?_) #[true, true, true] rfl rfl (by kernel_rfl) (fun _ _ _ h => h) (Or.inl ⟨by rfl, ?_⟩) ?_ ?_
    rotate_left
    ·intro w'
     go_simp
     with_reducible rfl
    rotate_left
    ·simp only [Act.put, List.setIfInBounds_toArray, List.set_cons_zero, List.set_cons_succ, i64_w, i32_w]
     rfl
    refine done_ (by kernel_rfl) ?_
    obtain ⟨_, _, _, _⟩ := sqN2 NB690_689 NB690_691
    obtain ⟨_, _, _, _, _, _, _, _⟩ := sqc4 BK690
    obtain ⟨_, _⟩ := sqN1 NB691_689
    obtain ⟨_, _, _, _, _, _, _, _⟩ := sqc4 BK691
    try go_wp2
    refine bodyPost_ret (results_cell_row rfl _ _ gb691 30 #[.int .i64 a1_0, .int .i64 a1_1, .int .i64 a1_2, .int .i64 a1_3] (0, 0) _ rfl (sqP BK691) Try.underlying30 rfl (by kernel_rfl)) rfl ?_
    exact sqe HB
   have c28b0 : (a0_0 == t698 && (a0_1 == t699 && (a0_2 == t700 && (a0_3 == t701)))) = false := by simpa using c28
   (try (have c28b1 : decide (a0_0 = t698 && (a0_1 == t699 && (a0_2 == t700 && (a0_3 == t701)))) = false := by simpa using c28))
   (try (have c28b2 : (a0_0 == t698 && (a0_1 == t699 && (a0_2 == t700 && (a0_3 == t701)))) = false := by simpa using c28))
   (try (have c28b3 : ¬ (a0_0 = t698 && (a0_1 == t699 && (a0_2 == t700 && (a0_3 == t701)))) := by simpa using c28))
   clear c28
   replace H := sqbi H
   obtain ⟨⟨t702, t703, t704, t705⟩, A36, H⟩ := H
   try dsimp only at H
   replace H := sqj H
   rcases H with ⟨c37, H⟩ | ⟨c37, H⟩
   ·have c37b0 : (a1_0 == t702 && (a1_1 == t703 && (a1_2 == t704 && (a1_3 == t705)))) = true := c37
    (try (have c37b1 : decide (a1_0 = t702 && (a1_1 == t703 && (a1_2 == t704 && (a1_3 == t705)))) = true := by simpa using c37))
    (try (have c37b2 : (a1_0 == t702 && (a1_1 == t703 && (a1_2 == t704 && (a1_3 == t705)))) = true := by simpa using c37))
    clear c37
    simp only [Option.some.injEq, Prod.mk.injEq] at H
    obtain ⟨rfl, rfl, rfl, rfl⟩ := H
    try go_wp2
    replace BK689 := sqdr BK689
    replace BK690 := sqdr BK690
    replace BK691 := sqdr BK691
    replace HB := sqdB HB
    refine sqst 3 (fun w' => w'.cell? ⟨gb689, 0, none⟩ = some (.int .i64 a0_0) ∧ w'.cell? ⟨gb689, 1, none⟩ = some (.int .i64 a0_1) ∧ w'.cell? ⟨gb689, 2, none⟩ = some (.int .i64 a0_2) ∧ w'.cell? ⟨gb689, 3, none⟩ = some (.int .i64 a0_3)) sqz (fun hHeld => ?_)
    generalize wc.drew = w38 at BK689 BK690 BK691 HB hHeld ⊢
    refine take_ (i := 0) (N := some 14) (v := ?_) (a' := ?_) #[true, false, false] rfl rfl (by kernel_rfl) (fun _ _ _ h => h) (Or.inl ⟨by rfl, ?_⟩) hHeld ?_ ?_
    rotate_left
    ·rintro w' ⟨s0, s1, s2, s3⟩
     go_simp
     with_reducible rfl
    rotate_left
    ·simp only [Act.put, List.setIfInBounds_toArray, List.set_cons_zero, List.set_cons_succ, i64_w, i32_w]
     rfl
    refine one_ (i := 1) (N := some 15) #[true, true, false] rfl rfl (by kernel_rfl) (by decide) (fun K hK => ?_)
    refine sqG Try.func100 #[] ?_
    with_reducible refine (spec_l10None.calls  t698 t699 t700 t701 _ A27.out).mono ?_
    rintro e w39 ⟨rfl, hb⟩
    refine ⟨_, rfl, ?_⟩
    refine sqM3 BK689 BK690 BK691 hb ?_; clear BK689 BK690 BK691; intro BK689 BK690 BK691
    replace HB := sqs HB hb
    (try clear hb)
    refine hK.out _ _ sqz (fun hHeld => ?_)
    clear hK K
    refine sqnm ?_
    refine pure_ (i := 2) (N := some 16) (v := ?_) (a' := ?_) #[true, true, true] rfl rfl (by kernel_rfl) (fun _ _ _ h => h) (Or.inl ⟨by rfl, ?_⟩) ?_ ?_
    rotate_left
    ·intro w'
     go_simp
     with_reducible rfl
    rotate_left
    ·simp only [Act.put, List.setIfInBounds_toArray, List.set_cons_zero, List.set_cons_succ, i64_w, i32_w]
     rfl
    refine done_ (by kernel_rfl) ?_
    try go_wp2
    replace BK689 := sqdr BK689
    replace BK690 := sqdr BK690
    replace BK691 := sqdr BK691
    replace HB := sqdB HB
    refine sqst 3 (fun w' => w'.cell? ⟨gb690, 0, none⟩ = some (.int .i64 a1_0) ∧ w'.cell? ⟨gb690, 1, none⟩ = some (.int .i64 a1_1) ∧ w'.cell? ⟨gb690, 2, none⟩ = some (.int .i64 a1_2) ∧ w'.cell? ⟨gb690, 3, none⟩ = some (.int .i64 a1_3)) sqz (fun hHeld => ?_)
    generalize w39.drew = w40 at BK689 BK690 BK691 HB hHeld ⊢
    refine take_ (i := 0) (N := some 18) (v := ?_) (a' := ?_) #[true, false, false] rfl rfl (by kernel_rfl) (fun _ _ _ h => h) (Or.inl ⟨by rfl, ?_⟩) hHeld ?_ ?_
    rotate_left
    ·rintro w' ⟨s0, s1, s2, s3⟩
     go_simp
     with_reducible rfl
    rotate_left
    ·simp only [Act.put, List.setIfInBounds_toArray, List.set_cons_zero, List.set_cons_succ, i64_w, i32_w]
     rfl
    refine one_ (i := 1) (N := some 19) #[true, true, false] rfl rfl (by kernel_rfl) (by decide) (fun K hK => ?_)
    refine sqG Try.func100 #[] ?_
    with_reducible refine (spec_l10None.calls  t702 t703 t704 t705 _ A36.out).mono ?_
    rintro e w41 ⟨rfl, hb⟩
    refine ⟨_, rfl, ?_⟩
    refine sqM3 BK689 BK690 BK691 hb ?_; clear BK689 BK690 BK691; intro BK689 BK690 BK691
    replace HB := sqs HB hb
    (try clear hb)
    refine hK.out _ _ sqz (fun hHeld => ?_)
    clear hK K
    refine sqnm ?_
    refine pure_ (i := 2) (N := some 20) (v := ?_) (a' := ?_) #[true, true, true] rfl rfl (by kernel_rfl) (fun _ _ _ h => h) (Or.inl ⟨by rfl, ?_⟩) ?_ ?_
    rotate_left
    ·intro w'
     go_simp
     with_reducible rfl
    rotate_left
    ·simp only [Act.put, List.setIfInBounds_toArray, List.set_cons_zero, List.set_cons_succ, i64_w, i32_w]
     rfl
    refine done_ (by kernel_rfl) ?_
    obtain ⟨_, _, _, _⟩ := sqN2 NB689_690 NB689_691
    obtain ⟨_, _, _, _, _, _, _, _⟩ := sqc4 BK689
    obtain ⟨_, _⟩ := sqN1 NB691_690
    obtain ⟨_, _, _, _, _, _, _, _⟩ := sqc4 BK691
    try go_wp2
    refine bodyPost_ret (results_cell_row rfl _ _ gb691 30 #[.int .i64 a0_0, .int .i64 a0_1, .int .i64 a0_2, .int .i64 a0_3] (0, 0) _ rfl (sqP BK691) Try.underlying30 rfl (by kernel_rfl)) rfl ?_
    exact sqe HB
   have c37b0 : (a1_0 == t702 && (a1_1 == t703 && (a1_2 == t704 && (a1_3 == t705)))) = false := by simpa using c37
   (try (have c37b1 : decide (a1_0 = t702 && (a1_1 == t703 && (a1_2 == t704 && (a1_3 == t705)))) = false := by simpa using c37))
   (try (have c37b2 : (a1_0 == t702 && (a1_1 == t703 && (a1_2 == t704 && (a1_3 == t705)))) = false := by simpa using c37))
   (try (have c37b3 : ¬ (a1_0 = t702 && (a1_1 == t703 && (a1_2 == t704 && (a1_3 == t705)))) := by simpa using c37))
   clear c37
   replace H := sqbi H
   obtain ⟨⟨t706, t707⟩, A47, H⟩ := H
   try dsimp only at H
   replace H := sqbi H
   obtain ⟨⟨t708, t709⟩, A48, H⟩ := H
   try dsimp only at H
   replace H := sqbi H
   obtain ⟨⟨t710, t711⟩, A49, H⟩ := H
   try dsimp only at H
   replace H := sqbi H
   obtain ⟨⟨t712, t713⟩, A50, H⟩ := H
   try dsimp only at H
   replace H := sqbi H
   obtain ⟨⟨t714, t715⟩, A51, H⟩ := H
   try dsimp only at H
   replace H := sqbi H
   obtain ⟨⟨t716, t717⟩, A52, H⟩ := H
   try dsimp only at H
   replace H := sqbi H
   obtain ⟨⟨t718, t719, t720, t721⟩, A53, H⟩ := H
   try dsimp only at H
   simp only [Option.some.injEq, Prod.mk.injEq] at H
   obtain ⟨rfl, rfl, rfl, rfl⟩ := H
   try go_wp2
   replace BK689 := sqdr BK689
   replace BK690 := sqdr BK690
   replace BK691 := sqdr BK691
   replace HB := sqdB HB
   refine sqst 3 (fun w' => w'.cell? ⟨gb689, 0, none⟩ = some (.int .i64 a0_0) ∧ w'.cell? ⟨gb689, 1, none⟩ = some (.int .i64 a0_1) ∧ w'.cell? ⟨gb689, 2, none⟩ = some (.int .i64 a0_2) ∧ w'.cell? ⟨gb689, 3, none⟩ = some (.int .i64 a0_3)) sqz (fun hHeld => ?_)
   generalize wc.drew = w54 at BK689 BK690 BK691 HB hHeld ⊢
   refine take_ (i := 0) (N := some 14) (v := ?_) (a' := ?_) #[true, false, false] rfl rfl (by kernel_rfl) (fun _ _ _ h => h) (Or.inl ⟨by rfl, ?_⟩) hHeld ?_ ?_
   rotate_left
   ·rintro w' ⟨s0, s1, s2, s3⟩
    go_simp
    with_reducible rfl
   rotate_left
   ·simp only [Act.put, List.setIfInBounds_toArray, List.set_cons_zero, List.set_cons_succ, i64_w, i32_w]
    rfl
   refine one_ (i := 1) (N := some 15) #[true, true, false] rfl rfl (by kernel_rfl) (by decide) (fun K hK => ?_)
   refine sqG Try.func100 #[] ?_
   with_reducible refine (spec_l10None.calls  t698 t699 t700 t701 _ A27.out).mono ?_
   rintro e w55 ⟨rfl, hb⟩
   refine ⟨_, rfl, ?_⟩
   refine sqM3 BK689 BK690 BK691 hb ?_; clear BK689 BK690 BK691; intro BK689 BK690 BK691
   replace HB := sqs HB hb
   (try clear hb)
   refine hK.out _ _ sqz (fun hHeld => ?_)
   clear hK K
   refine sqnm ?_
   refine pure_ (i := 2) (N := some 16) (v := ?_) (a' := ?_) #[true, true, true] rfl rfl (by kernel_rfl) (fun _ _ _ h => h) (Or.inl ⟨by rfl, ?_⟩) ?_ ?_
   rotate_left
   ·intro w'
    go_simp
    with_reducible rfl
   rotate_left
   ·simp only [Act.put, List.setIfInBounds_toArray, List.set_cons_zero, List.set_cons_succ, i64_w, i32_w]
    rfl
   refine done_ (by kernel_rfl) ?_
   try go_wp2
   replace BK689 := sqdr BK689
   replace BK690 := sqdr BK690
   replace BK691 := sqdr BK691
   replace HB := sqdB HB
   refine sqst 3 (fun w' => w'.cell? ⟨gb690, 0, none⟩ = some (.int .i64 a1_0) ∧ w'.cell? ⟨gb690, 1, none⟩ = some (.int .i64 a1_1) ∧ w'.cell? ⟨gb690, 2, none⟩ = some (.int .i64 a1_2) ∧ w'.cell? ⟨gb690, 3, none⟩ = some (.int .i64 a1_3)) sqz (fun hHeld => ?_)
   generalize w55.drew = w56 at BK689 BK690 BK691 HB hHeld ⊢
   refine take_ (i := 0) (N := some 18) (v := ?_) (a' := ?_) #[true, false, false] rfl rfl (by kernel_rfl) (fun _ _ _ h => h) (Or.inl ⟨by rfl, ?_⟩) hHeld ?_ ?_
   rotate_left
   ·rintro w' ⟨s0, s1, s2, s3⟩
    go_simp
    with_reducible rfl
   rotate_left
   ·simp only [Act.put, List.setIfInBounds_toArray, List.set_cons_zero, List.set_cons_succ, i64_w, i32_w]
    rfl
   refine one_ (i := 1) (N := some 19) #[true, true, false] rfl rfl (by kernel_rfl) (by decide) (fun K hK => ?_)
   refine sqG Try.func100 #[] ?_
   with_reducible refine (spec_l10None.calls  t702 t703 t704 t705 _ A36.out).mono ?_
   rintro e w57 ⟨rfl, hb⟩
   refine ⟨_, rfl, ?_⟩
   refine sqM3 BK689 BK690 BK691 hb ?_; clear BK689 BK690 BK691; intro BK689 BK690 BK691
   replace HB := sqs HB hb
   (try clear hb)
   refine hK.out _ _ sqz (fun hHeld => ?_)
   clear hK K
   refine sqnm ?_
   refine pure_ (i := 2) (N := some 20) (v := ?_) (a' := ?_) #[true, true, true] rfl rfl (by kernel_rfl) (fun _ _ _ h => h) (Or.inl ⟨by rfl, ?_⟩) ?_ ?_
   rotate_left
   ·intro w'
    go_simp
    with_reducible rfl
   rotate_left
   ·simp only [Act.put, List.setIfInBounds_toArray, List.set_cons_zero, List.set_cons_succ, i64_w, i32_w]
    rfl
   refine done_ (by kernel_rfl) ?_
   try go_wp2
   replace BK689 := sqdr BK689
   replace BK690 := sqdr BK690
   replace BK691 := sqdr BK691
   replace HB := sqdB HB
   refine sqst 12 (fun w' => w'.cell? ⟨gb689, 0, none⟩ = some (.int .i64 a0_0) ∧ w'.cell? ⟨gb689, 1, none⟩ = some (.int .i64 a0_1) ∧ w'.cell? ⟨gb689, 2, none⟩ = some (.int .i64 a0_2) ∧ w'.cell? ⟨gb689, 3, none⟩ = some (.int .i64 a0_3) ∧ w'.cell? ⟨gb690, 0, none⟩ = some (.int .i64 a1_0) ∧ w'.cell? ⟨gb690, 1, none⟩ = some (.int .i64 a1_1) ∧ w'.cell? ⟨gb690, 2, none⟩ = some (.int .i64 a1_2) ∧ w'.cell? ⟨gb690, 3, none⟩ = some (.int .i64 a1_3)) sqz (fun hHeld => ?_); refine with_tabW spec_ValJoin.tab7 spec_ValJoin.bits7 (fun HT_ HW_ => ?_)
   generalize w57.drew = w58 at BK689 BK690 BK691 HB hHeld ⊢
   refine sqw HT_ HW_ 0 22 hHeld ?_
   refine sqw HT_ HW_ 2 24 hHeld ?_
   refine sqw HT_ HW_ 5 27 hHeld ?_
   refine sqw HT_ HW_ 7 29 hHeld ?_
   refine sqo HT_ 1 23 (fun K hK => ?_)
   refine sqG Try.func180 #[.agg #[.int .i64 a0_0, .int .i64 a0_1, .int .i64 a0_2, .int .i64 a0_3]] ?_
   with_reducible refine (spec_l10Range.calls a0_0 a0_1 a0_2 a0_3 t706 t707 _ A47.out).mono ?_
   rintro e w59 ⟨rfl, hb⟩
   refine ⟨_, rfl, ?_⟩
   refine sqM3 BK689 BK690 BK691 hb ?_; clear BK689 BK690 BK691; intro BK689 BK690 BK691
   replace HB := sqs HB hb
   (try clear hb)
   refine hK.out _ _ sqz (fun hHeld => ?_)
   clear hK K
   refine sqnm ?_
   refine sqo HT_ 3 25 (fun K hK => ?_)
   refine sqG Try.func180 #[.agg #[.int .i64 a1_0, .int .i64 a1_1, .int .i64 a1_2, .int .i64 a1_3]] ?_
   with_reducible refine (spec_l10Range.calls a1_0 a1_1 a1_2 a1_3 t708 t709 _ A48.out).mono ?_
   rintro e w60 ⟨rfl, hb⟩
   refine ⟨_, rfl, ?_⟩
   refine sqM3 BK689 BK690 BK691 hb ?_; clear BK689 BK690 BK691; intro BK689 BK690 BK691
   replace HB := sqs HB hb
   (try clear hb)
   refine hK.out _ _ sqz (fun hHeld => ?_)
   clear hK K
   refine sqnm ?_
   refine sqo HT_ 4 26 (fun K hK => ?_)
   refine sqG Try.func188 #[.agg #[.int .i64 t706, .int .i64 t707], .agg #[.int .i64 t708, .int .i64 t709]] ?_
   with_reducible refine (spec_RangeJoin.calls kj2 t706 t707 t708 t709 t710 t711 _ A49.out).mono ?_
   rintro e w61 ⟨rfl, hb⟩
   refine ⟨_, rfl, ?_⟩
   refine sqM3 BK689 BK690 BK691 hb ?_; clear BK689 BK690 BK691; intro BK689 BK690 BK691
   replace HB := sqs HB hb
   (try clear hb)
   refine hK.out _ _ sqz (fun hHeld => ?_)
   clear hK K
   refine sqnm ?_
   refine sqo HT_ 6 28 (fun K hK => ?_)
   refine sqG Try.func181 #[.agg #[.int .i64 a0_0, .int .i64 a0_1, .int .i64 a0_2, .int .i64 a0_3]] ?_
   with_reducible refine (spec_l10Rest.calls a0_0 a0_1 a0_2 a0_3 t712 t713 _ A50.out).mono ?_
   rintro e w62 ⟨rfl, hb⟩
   refine ⟨_, rfl, ?_⟩
   refine sqM3 BK689 BK690 BK691 hb ?_; clear BK689 BK690 BK691; intro BK689 BK690 BK691
   replace HB := sqs HB hb
   (try clear hb)
   refine hK.out _ _ sqz (fun hHeld => ?_)
   clear hK K
   refine sqnm ?_
   refine sqo HT_ 8 30 (fun K hK => ?_)
   refine sqG Try.func181 #[.agg #[.int .i64 a1_0, .int .i64 a1_1, .int .i64 a1_2, .int .i64 a1_3]] ?_
   with_reducible refine (spec_l10Rest.calls a1_0 a1_1 a1_2 a1_3 t714 t715 _ A51.out).mono ?_
   rintro e w63 ⟨rfl, hb⟩
   refine ⟨_, rfl, ?_⟩
   refine sqM3 BK689 BK690 BK691 hb ?_; clear BK689 BK690 BK691; intro BK689 BK690 BK691
   replace HB := sqs HB hb
   (try clear hb)
   refine hK.out _ _ sqz (fun hHeld => ?_)
   clear hK K
   refine sqnm ?_
   refine sqo HT_ 9 31 (fun K hK => ?_)
   refine sqG Try.func189 #[.agg #[.int .i64 t712, .int .i64 t713], .agg #[.int .i64 t714, .int .i64 t715]] ?_
   with_reducible refine (spec_RestJoin.calls kj2 t712 t713 t714 t715 t716 t717 _ A52.out).mono ?_
   rintro e w64 ⟨rfl, hb⟩
   refine ⟨_, rfl, ?_⟩
   refine sqM3 BK689 BK690 BK691 hb ?_; clear BK689 BK690 BK691; intro BK689 BK690 BK691
   replace HB := sqs HB hb
   (try clear hb)
   refine hK.out _ _ sqz (fun hHeld => ?_)
   clear hK K
   refine sqnm ?_
   refine sqo HT_ 10 32 (fun K hK => ?_)
   refine sqG Try.func17 #[.agg #[.int .i64 t710, .int .i64 t711], .agg #[.int .i64 t716, .int .i64 t717]] ?_
   with_reducible refine (spec_ValMake.calls kj2 t710 t711 t716 t717 t718 t719 t720 t721 _ A53.out).mono ?_
   rintro e w65 ⟨rfl, hb⟩
   refine ⟨_, rfl, ?_⟩
   refine sqM3 BK689 BK690 BK691 hb ?_; clear BK689 BK690 BK691; intro BK689 BK690 BK691
   replace HB := sqs HB hb
   (try clear hb)
   refine hK.out _ _ sqz (fun hHeld => ?_)
   clear hK K
   refine sqnm ?_
   refine one_ (i := 11) (N := none) #[true, true, true, true, true, true, true, true, true, true, true, true] rfl rfl (one_of HT_.out (by kernel_rfl)) (by decide) (fun K hK => ?_)
   have hs66 : w65.cell? ⟨gb691, 0, none⟩ = some (.int .i64 0) := (blk_cell BK691.out 0).trans rfl
   have hfs66 := blk_frozen BK691.out 0
   have hns66_0 := NB689_691.out
   have hns66_1 := NB690_691.out
   have hms66_0 := NB691_689.out
   have hms66_1 := NB691_690.out
   have hs67 : w65.cell? ⟨gb691, 1, none⟩ = some (.int .i64 0) := (blk_cell BK691.out 1).trans rfl
   have hfs67 := blk_frozen BK691.out 1
   have hns67_0 := NB689_691.out
   have hns67_1 := NB690_691.out
   have hms67_0 := NB691_689.out
   have hms67_1 := NB691_690.out
   have hs68 : w65.cell? ⟨gb691, 2, none⟩ = some (.int .i64 0) := (blk_cell BK691.out 2).trans rfl
   have hfs68 := blk_frozen BK691.out 2
   have hns68_0 := NB689_691.out
   have hns68_1 := NB690_691.out
   have hms68_0 := NB691_689.out
   have hms68_1 := NB691_690.out
   have hs69 : w65.cell? ⟨gb691, 3, none⟩ = some (.int .i64 0) := (blk_cell BK691.out 3).trans rfl
   have hfs69 := blk_frozen BK691.out 3
   have hns69_0 := NB689_691.out
   have hns69_1 := NB690_691.out
   have hms69_0 := NB691_689.out
   have hms69_1 := NB691_690.out
   refine skip_ (w1 := ?_) (by rfl) rfl ?_ ?_
   rotate_left
   ·go_simp
    rfl
   refine hK.out _ _ ⟨(sqfa NB689_691 ((sqfa NB689_691 ((sqfa NB689_691 ((sqfa NB689_691 (hHeld.1)))))))), (sqfa NB689_691 ((sqfa NB689_691 ((sqfa NB689_691 ((sqfa NB689_691 (hHeld.2.1)))))))), (sqfa NB689_691 ((sqfa NB689_691 ((sqfa NB689_691 ((sqfa NB689_691 (hHeld.2.2.1)))))))), (sqfa NB689_691 ((sqfa NB689_691 ((sqfa NB689_691 ((sqfa NB689_691 (hHeld.2.2.2.1)))))))), (sqfa NB690_691 ((sqfa NB690_691 ((sqfa NB690_691 ((sqfa NB690_691 (hHeld.2.2.2.2.1)))))))), (sqfa NB690_691 ((sqfa NB690_691 ((sqfa NB690_691 ((sqfa NB690_691 (hHeld.2.2.2.2.2.1)))))))), (sqfa NB690_691 ((sqfa NB690_691 ((sqfa NB690_691 ((sqfa NB690_691 (hHeld.2.2.2.2.2.2.1)))))))), (sqfa NB690_691 ((sqfa NB690_691 ((sqfa NB690_691 ((sqfa NB690_691 (hHeld.2.2.2.2.2.2.2))))))))⟩ (fun hHeld => ?_)
   clear hK K
   refine done_ (done_of HT_.out (by kernel_rfl)) ?_
   try go_wp2
   refine bodyPost_ret (results_cell_row rfl _ _ gb691 30 #[.int .i64 t718, .int .i64 t719, .int .i64 t720, .int .i64 t721] (0, 0) _ rfl (sqP BK691) Try.underlying30 rfl (by kernel_rfl)) rfl ?_
   exact sqe HB

end Go.Proofs.Ytkekcenlleebeaa.PFnValLattice
