/- Functions of the program as plain Lean functions, and that calls of them come to what these tell. Conditions: those in each law. -/
import Derived.Test.YtkekcenlleebeaaSq
import Derived.Test.YtkekcenlleebeaaDFnValLattice
import Derived.Test.YtkekcenlleebeaaQFnValLatticex0
import Derived.Test.YtkekcenlleebeaaQFnValLatticex1
import Derived.Test.YtkekcenlleebeaaQFnValLatticex6
import Derived.Test.YtkekcenlleebeaaQFnValLatticex7
import Derived.Test.YtkekcenlleebeaaQFnValLatticex16
namespace Go.Proofs.Ytkekcenlleebeaa.PFnValLattice
open Go.RowKit Go.Proofs.Ytkekcenlleebeaa.Sq Go.Proofs.YtkekcenlleebeaaW.PrintWords Go.Proofs.YtkekcenlleebeaaW.PrintLast Go.Proofs.YtkekcenlleebeaaW.PrintMore
attribute [local go_sem] max2_int min2_int max_two min_two max_three min_three max_four min_four   -- for this text's walks alone
set_option linter.unusedVariables false
set_option linter.unusedSimpArgs false

attribute [local go_sem high] eqA24
/-! ### spec_RangeJoin: function 188 -/
def spec_RangeJoin.T7 : Bool × List (List Nat × List Nat) := (true, [([], []), ([0], [0]), ([], []), ([2], [2]), ([1, 3], [1, 3]), ([], []), ([5], [5]), ([], []), ([7], [7]), ([6, 8, 4], [6, 8]), ([4, 9], [4, 9]), ([10, 9, 0, 1, 2, 3, 4, 5, 6, 7, 8, 9, 10], [10])])
def spec_RangeJoin.B7 : List Nat := [0, 1, 0, 4, 15, 0, 32, 0, 128, 511, 1023, 2047]
theorem spec_RangeJoin.tab7 : rtab .any (opsOf Try.f188 7) = spec_RangeJoin.T7 := by kernel_rfl
theorem spec_RangeJoin.bits7 : waitsOk spec_RangeJoin.T7.2 spec_RangeJoin.B7 = true := by kernel_rfl
set_option maxHeartbeats 8000000 in
set_option maxRecDepth 100000 in
theorem spec_RangeJoin.calls (k : Nat) (a0_0 : Int) (a0_1 : Int) (a1_0 : Int) (a1_1 : Int) (r1 : Int) (r2 : Int) (w : World) (h : spec_RangeJoin.f k a0_0 a0_1 a1_0 a1_1 = some (r1, r2)) :
  Calls Try.prog 188 #[.agg #[.int .i64 a0_0, .int .i64 a0_1], .agg #[.int .i64 a1_0, .int .i64 a1_1]] w fun e w' => e = .returned (.agg #[.int .i64 r1, .int .i64 r2]) ∧ Below w.heap.size w w' := by
 have hu24 := Try.underlying24
 have HB := Aside0.mk (Below.refl w.heap.size w)
 have H := h
 unfold spec_RangeJoin.f at H
 clear h
 have HC3 := Aside0.mk H
 clear H
 go_enter Try.func188, Try.ntmps188
 go_upto_region 1 with (first | ((with_reducible refine gate_dst (N := 2) rfl ?_); refine sqx 2 #[.int .i64 a0_0, .int .i64 a0_1] 24 ?_; intro gb661 hg w4 hbox hb; have BK661 := Aside0.mk hbox; have GW661 := sqg HB hg; replace HB := sqs HB hb; clear hb hbox hg) | ((with_reducible refine gate_dst (N := 3) rfl ?_); refine sqx 3 #[.int .i64 a1_0, .int .i64 a1_1] 24 ?_; intro gb662 hg w5 hbox hb; have BK662 := Aside0.mk hbox; have GW662 := sqg HB hg; have NB661_662 := sqn BK661 hg; have NB662_661 := sqm BK661 hg; replace BK661 := sqb BK661 hb; replace HB := sqs HB hb; clear hb hbox hg) | ((with_reducible refine gate_dst (N := 4) rfl ?_); refine sqx 4 #[.int .i64 0, .int .i64 0] 24 ?_; intro gb663 hg w6 hbox hb; have BK663 := Aside0.mk hbox; have GW663 := sqg HB hg; have NB661_663 := sqn BK661 hg; have NB663_661 := sqm BK661 hg; have NB662_663 := sqn BK662 hg; have NB663_662 := sqm BK662 hg; refine sqM2 BK661 BK662 hb ?_; clear BK661 BK662; intro BK661 BK662; replace HB := sqs HB hb; clear hb hbox hg))
 (try simp only [Act.put, List.setIfInBounds_toArray, List.set_cons_zero, List.set_cons_succ])
 go_cut [12] (fun v12 wc => ∃ (kq : Nat) (x12_2 : Bool), v12 = .bool x12_2 ∧ Aside0 (spec_RangeJoin.j0 kq x12_2 a0_0 a0_1 a1_0 a1_1 = some (r1, r2)) ∧ Aside0 (kq ≤ k) ∧ Aside0 (wc.heap[gb661]? = some (.cells #[.int .i64 a0_0, .int .i64 a0_1] 24 (0, 0))) ∧ Aside0 (wc.heap[gb662]? = some (.cells #[.int .i64 a1_0, .int .i64 a1_1] 24 (0, 0))) ∧ Aside0 (wc.heap[gb663]? = some (.cells #[.int .i64 0, .int .i64 0] 24 (0, 0))) ∧ Aside0 (Below w.heap.size w wc))
 case first =>
  have H := HC3.out
  clear HC3
  replace H := sqbi H
  obtain ⟨t664, A7, H⟩ := H
  try dsimp only at H
  rcases sqI (t664 = true) with c8 | c8
  ·replace c8 := Bool.eq_false_iff.mpr c8
   subst c8
   have H1 : (spec_RangeJoin.j0 k true a0_0 a0_1 a1_0 a1_1) = some (r1, r2) := by rw [if_neg (show ¬ (false = true) by decide)] at H; exact H
   clear H
   have H := H1
   clear H1
   have H' := Aside0.mk H
   clear H
   obtain ⟨_, _, _, _⟩ := sqN2 NB661_662 NB661_663
   obtain ⟨_, _, _, _⟩ := sqc2 BK661
   go_wp2_with (first | ((with_reducible refine gate_callee (f := 45) rfl ?_); refine sqL (some 6) Try.func45 #[.agg #[.int .i64 a0_0, .int .i64 a0_1]] ?_; (with_reducible refine (spec_RangeOk.calls a0_0 a0_1 false _ A7.out).mono ?_); rintro e w20 ⟨rfl, hb⟩; refine ⟨_, rfl, ?_⟩; refine sqM3 BK661 BK662 BK663 hb ?_; clear BK661 BK662 BK663; intro BK661 BK662 BK663; replace HB := sqs HB hb; (try clear hb)))
   go_meet
   case rel => exact ⟨_, (true), (by first | rfl | (simp; done) | (simp [*]; done)), H', ⟨by first | omega | exact Nat.le_refl _⟩, sqk BK661, sqk BK662, sqk BK663, sqh HB⟩
  subst c8
  have H1 : ((spec_RangeOk.f a1_0 a1_1).bind fun t665 => (spec_RangeJoin.j0 k (!t665) a0_0 a0_1 a1_0 a1_1)) = some (r1, r2) := by rw [if_pos rfl] at H; exact H
  clear H
  have H := H1
  clear H1
  replace H := sqbi H
  obtain ⟨t665, A9, H⟩ := H
  try dsimp only at H
  have H' := Aside0.mk H
  clear H
  obtain ⟨_, _, _, _⟩ := sqN2 NB661_662 NB661_663
  obtain ⟨_, _, _, _⟩ := sqc2 BK661
  go_wp2_with (first | ((with_reducible refine gate_callee (f := 45) rfl ?_); refine sqL (some 6) Try.func45 #[.agg #[.int .i64 a0_0, .int .i64 a0_1]] ?_; (with_reducible refine (spec_RangeOk.calls a0_0 a0_1 true _ A7.out).mono ?_); rintro e w13 ⟨rfl, hb⟩; refine ⟨_, rfl, ?_⟩; refine sqM3 BK661 BK662 BK663 hb ?_; clear BK661 BK662 BK663; intro BK661 BK662 BK663; replace HB := sqs HB hb; (try clear hb); obtain ⟨_, _⟩ := sqN1 NB662_663; obtain ⟨_, _, _, _⟩ := sqc2 BK662) | (go_at_call 45; (with_reducible refine (spec_RangeOk.calls a1_0 a1_1 t665 _ A9.out).mono ?_); rintro e w16 ⟨rfl, hb⟩; refine sqM3 BK661 BK662 BK663 hb ?_; clear BK661 BK662 BK663; intro BK661 BK662 BK663; replace HB := sqs HB hb; (try clear hb)))
  go_meet
  case rel => exact ⟨_, (!t665), (by first | rfl | (simp; done) | (simp [*]; done)), H', ⟨by first | omega | exact Nat.le_refl _⟩, sqk BK661, sqk BK662, sqk BK663, sqh HB⟩
 case rest =>
  clear HC3
  obtain ⟨kq, x12_2, rfl, HA, HJ2, BK661, BK662, BK663, HB⟩ := hcut
  cases kq with
  | zero => exact absurd HA.out (by simp [spec_RangeJoin.j0])
  | succ kj2 =>
   have H := HA.out
   clear HA
   simp only [spec_RangeJoin.j0] at H
   by_cases c21 : x12_2 = true
   ·subst c21
    have H1 : ((spec_l8None.f).bind fun bt666 => (some (bt666.1, bt666.2))) = some (r1, r2) := by rw [if_pos rfl] at H; exact H
    clear H
    have H := H1
    clear H1
    replace H := sqbi H
    obtain ⟨⟨t666, t667⟩, A22, H⟩ := H
    try dsimp only at H
    simp only [Option.some.injEq, Prod.mk.injEq] at H
    obtain ⟨rfl, rfl⟩ := H
    go_wp2_with (first | ((with_reducible refine gate_callee (f := 99) rfl ?_); refine sqL (some 13) Try.func99 #[] ?_; (with_reducible refine (spec_l8None.calls  t666 t667 _ A22.out).mono ?_); rintro e w23 ⟨rfl, hb⟩; refine ⟨_, rfl, ?_⟩; refine sqM3 BK661 BK662 BK663 hb ?_; clear BK661 BK662 BK663; intro BK661 BK662 BK663; replace HB := sqs HB hb; (try clear hb); obtain ⟨_, _, _, _⟩ := sqN2 NB663_661 NB663_662; obtain ⟨_, _, _, _⟩ := sqc2 BK663))
    refine bodyPost_ret (results_cell_row rfl _ _ gb663 24 #[.int .i64 t666, .int .i64 t667] (0, 0) _ rfl (sqP BK663) Try.underlying24 rfl (by kernel_rfl)) rfl ?_
    exact sqe HB
   replace c21 := Bool.eq_false_iff.mpr c21
   subst c21
   have H1 : ((spec_l8None.f).bind fun bt668 => (if (a0_0 == bt668.1 && (a0_1 == bt668.2)) = true then (some (a1_0, a1_1)) else ((spec_l8None.f).bind fun bt670 => (if (a1_0 == bt670.1 && (a1_1 == bt670.2)) = true then (some (a0_0, a0_1)) else ((spec_l8Min.f a0_0 a1_0).bind fun t672 => ((spec_l8Max.f a0_1 a1_1).bind fun t673 => (some (t672, t673)))))))) = some (r1, r2) := by rw [if_neg (show ¬ (false = true) by decide)] at H; exact H
   clear H
   have H := H1
   clear H1
   replace H := sqbi H
   obtain ⟨⟨t668, t669⟩, A27, H⟩ := H
   try dsimp only at H
   replace H := sqj H
   rcases H with ⟨c28, H⟩ | ⟨c28, H⟩
   ·have c28b0 : (a0_0 == t668 && (a0_1 == t669)) = true := c28
    (try (have c28b1 : decide (a0_0 = t668 && (a0_1 == t669)) = true := by simpa using c28))
    (try (have c28b2 : (a0_0 == t668 && (a0_1 == t669)) = true := by simpa using c28))
    clear c28
    simp only [Option.some.injEq, Prod.mk.injEq] at H
    obtain ⟨rfl, rfl⟩ := H
    try go_wp2
    replace BK661 := sqdr BK661
    replace BK662 := sqdr BK662
    replace BK663 := sqdr BK663
    replace HB := sqdB HB
    refine sqst 3 (fun w' => w'.cell? ⟨gb661, 0, none⟩ = some (.int .i64 a0_0) ∧ w'.cell? ⟨gb661, 1, none⟩ = some (.int .i64 a0_1)) sqz (fun hHeld => ?_)
    generalize wc.drew = w29 at BK661 BK662 BK663 HB hHeld ⊢
    refine take_ (i := 0) (N := some 14) (v := ?_) (a' := ?_) #[true, false, false] rfl rfl (by kernel_rfl) (fun _ _ _ h => h) (Or.inl ⟨by rfl, ?_⟩) hHeld ?_ ?_
    rotate_left
    ·rintro w' ⟨s0, s1⟩
     go_simp
     with_reducible rfl
    rotate_left
    ·simp only [Act.put, List.setIfInBounds_toArray, List.set_cons_zero, List.set_cons_succ, i64_w, i32_w]
     rfl
    refine one_ (i := 1) (N := some 15) #[true, true, false] rfl rfl (by kernel_rfl) (by decide) (fun K hK => ?_)
    refine sqG Try.func99 #[] ?_
    with_reducible refine (spec_l8None.calls  t668 t669 _ A27.out).mono ?_
    rintro e w30 ⟨rfl, hb⟩
    refine ⟨_, rfl, ?_⟩
    refine sqM3 BK661 BK662 BK663 hb ?_; clear BK661 BK662 BK663; intro BK661 BK662 BK663
    replace HB := sqs HB hb
    (try clear hb)
    refine hK.out _ _ sqz (fun hHeld => ?_)
    clear hK K
    refine sqnm ?_
    refine pure_ (i := 2) (N := some 16) (v := ?_) (a' := ?_) #[true, true, true] rfl rfl (by kernel_rfl) (fun _ _ _ h => h) (Or.inl ⟨by rfl, ?_⟩) ?_ ?_
    rotate_left
    ·intro w'
     go_simp
     with_reducible rfl
    rotate_left
    ·simp only [Act.put, List.setIfInBounds_toArray, List.set_cons_zero, List.set_cons_succ, i64_w, i32_w]
     rfl
    refine done_ (by kernel_rfl) ?_
    obtain ⟨_, _, _, _⟩ := sqN2 NB662_661 NB662_663
    obtain ⟨_, _, _, _⟩ := sqc2 BK662
    obtain ⟨_, _⟩ := sqN1 NB663_661
    obtain ⟨_, _, _, _⟩ := sqc2 BK663
    try go_wp2
    refine bodyPost_ret (results_cell_row rfl _ _ gb663 24 #[.int .i64 a1_0, .int .i64 a1_1] (0, 0) _ rfl (sqP BK663) Try.underlying24 rfl (by kernel_rfl)) rfl ?_
    exact sqe HB
   have c28b0 : (a0_0 == t668 && (a0_1 == t669)) = false := by simpa using c28
   (try (have c28b1 : decide (a0_0 = t668 && (a0_1 == t669)) = false := by simpa using c28))
   (try (have c28b2 : (a0_0 == t668 && (a0_1 == t669)) = false := by simpa using c28))
   (try (have c28b3 : ¬ (a0_0 = t668 && (a0_1 == t669)) := by simpa using c28))
   clear c28
   replace H := sqbi H
   obtain ⟨⟨t670, t671⟩, A36, H⟩ := H
   try dsimp only at H
   replace H := sqj H
   rcases H with ⟨c37, H⟩ | ⟨c37, H⟩
   ·have c37b0 : (a1_0 == t670 && (a1_1 == t671)) = true := c37
    (try (have c37b1 : decide (a1_0 = t670 && (a1_1 == t671)) = true := by simpa using c37))
    (try (have c37b2 : (a1_0 == t670 && (a1_1 == t671)) = true := by simpa using c37))
    clear c37
    simp only [Option.some.injEq, Prod.mk.injEq] at H
    obtain ⟨rfl, rfl⟩ := H
    try go_wp2
    replace BK661 := sqdr BK661
    replace BK662 := sqdr BK662
    replace BK663 := sqdr BK663
    replace HB := sqdB HB
    refine sqst 3 (fun w' => w'.cell? ⟨gb661, 0, none⟩ = some (.int .i64 a0_0) ∧ w'.cell? ⟨gb661, 1, none⟩ = some (.int .i64 a0_1)) sqz (fun hHeld => ?_)
    generalize wc.drew = w38 at BK661 BK662 BK663 HB hHeld ⊢
    refine take_ (i := 0) (N := some 14) (v := ?_) (a' := ?_) #[true, false, false] rfl rfl (by kernel_rfl) (fun _ _ _ h => h) (Or.inl ⟨by rfl, ?_⟩) hHeld ?_ ?_
    rotate_left
    ·rintro w' ⟨s0, s1⟩
     go_simp
     with_reducible rfl
    rotate_left
    ·simp only [Act.put, List.setIfInBounds_toArray, List.set_cons_zero, List.set_cons_succ, i64_w, i32_w]
     rfl
    refine one_ (i := 1) (N := some 15) #[true, true, false] rfl rfl (by kernel_rfl) (by decide) (fun K hK => ?_)
    refine sqG Try.func99 #[] ?_
    with_reducible refine (spec_l8None.calls  t668 t669 _ A27.out).mono ?_
    rintro e w39 ⟨rfl, hb⟩
    refine ⟨_, rfl, ?_⟩
    refine sqM3 BK661 BK662 BK663 hb ?_; clear BK661 BK662 BK663; intro BK661 BK662 BK663
    replace HB := sqs HB hb
    (try clear hb)
    refine hK.out _ _ sqz (fun hHeld => ?_)
    clear hK K
    refine sqnm ?_
    refine pure_ (i := 2) (N := some 16) (v := ?_) (a' := ?_) #[true, true, true] rfl rfl (by kernel_rfl) (fun _ _ _ h => h) (Or.inl ⟨by rfl, ?_⟩) ?_ ?_
    rotate_left
    ·intro w'
     go_simp
     with_reducible rfl
    rotate_left
    ·simp only [Act.put, List.setIfInBounds_toArray, List.set_cons_zero, List.set_cons_succ, i64_w, i32_w]
     rfl
    refine done_ (by kernel_rfl) ?_
    try go_wp2
    replace BK661 := sqdr BK661
    replace BK662 := sqdr BK662
    replace BK663 := sqdr BK663
    replace HB := sqdB HB
    refine sqst 3 (fun w' => w'.cell? ⟨gb662, 0, none⟩ = some (.int .i64 a1_0) ∧ w'.cell? ⟨gb662, 1, none⟩ = some (.int .i64 a1_1)) sqz (fun hHeld => ?_)
    generalize w39.drew = w40 at BK661 BK662 BK663 HB hHeld ⊢
    refine take_ (i := 0) (N := some 18) (v := ?_) (a' := ?_) #[true, false, false] rfl rfl (by kernel_rfl) (fun _ _ _ h => h) (Or.inl ⟨by rfl, ?_⟩) hHeld ?_ ?_
    rotate_left
    ·rintro w' ⟨s0, s1⟩
     go_simp
     with_reducible rfl
    rotate_left
    ·simp only [Act.put, List.setIfInBounds_toArray, List.set_cons_zero, List.set_cons_succ, i64_w, i32_w]
     rfl
    refine one_ (i := 1) (N := some 19) #[true, true, false] rfl rfl (by kernel_rfl) (by decide) (fun K hK => ?_)
    refine sqG Try.func99 #[] ?_
    with_reducible refine (spec_l8None.calls  t670 t671 _ A36.out).mono ?_
    rintro e w41 ⟨rfl, hb⟩
    refine ⟨_, rfl, ?_⟩
    refine sqM3 BK661 BK662 BK663 hb ?_; clear BK661 BK662 BK663; intro BK661 BK662 BK663
    replace HB := sqs HB hb
    (try clear hb)
    refine hK.out _ _ sqz (fun hHeld => ?_)
    clear hK K
    refine sqnm ?_
    refine pure_ (i := 2) (N := some 20) (v := ?_) (a' := ?_) #[true, true, true] rfl rfl (by kernel_rfl) (fun _ _ _ h => h) (Or.inl ⟨by rfl, ?_⟩) ?_ ?_
    rotate_left
    ·intro w'
     go_simp
     with_reducible rfl
    rotate_left
    ·simp only [Act.put, List.setIfInBounds_toArray, List.set_cons_zero, List.set_cons_succ, i64_w, i32_w]
     rfl
    refine done_ (by kernel_rfl) ?_
    obtain ⟨_, _, _, _⟩ := sqN2 NB661_662 NB661_663
    obtain ⟨_, _, _, _⟩ := sqc2 BK661
    obtain ⟨_, _⟩ := sqN1 NB663_662
    obtain ⟨_, _, _, _⟩ := sqc2 BK663
    try go_wp2
    refine bodyPost_ret (results_cell_row rfl _ _ gb663 24 #[.int .i64 a0_0, .int .i64 a0_1] (0, 0) _ rfl (sqP BK663) Try.underlying24 rfl (by kernel_rfl)) rfl ?_
    exact sqe HB
   have c37b0 : (a1_0 == t670 && (a1_1 == t671)) = false := by simpa using c37
   (try (have c37b1 : decide (a1_0 = t670 && (a1_1 == t671)) = false := by simpa using c37))
   (try (have c37b2 : (a1_0 == t670 && (a1_1 == t671)) = false := by simpa using c37))
   (try (have c37b3 : ¬ (a1_0 = t670 && (a1_1 == t671)) := by simpa using c37))
   clear c37
   replace H := sqbi H
   obtain ⟨t672, A47, H⟩ := H
   try dsimp only at H
   replace H := sqbi H
   obtain ⟨t673, A48, H⟩ := H
   try dsimp only at H
   simp only [Option.some.injEq, Prod.mk.injEq] at H
   obtain ⟨rfl, rfl⟩ := H
   try go_wp2
   replace BK661 := sqdr BK661
   replace BK662 := sqdr BK662
   replace BK663 := sqdr BK663
   replace HB := sqdB HB
   refine sqst 3 (fun w' => w'.cell? ⟨gb661, 0, none⟩ = some (.int .i64 a0_0) ∧ w'.cell? ⟨gb661, 1, none⟩ = some (.int .i64 a0_1)) sqz (fun hHeld => ?_)
   generalize wc.drew = w49 at BK661 BK662 BK663 HB hHeld ⊢
   refine take_ (i := 0) (N := some 14) (v := ?_) (a' := ?_) #[true, false, false] rfl rfl (by kernel_rfl) (fun _ _ _ h => h) (Or.inl ⟨by rfl, ?_⟩) hHeld ?_ ?_
   rotate_left
   ·rintro w' ⟨s0, s1⟩
    go_simp
    with_reducible rfl
   rotate_left
   ·simp only [Act.put, List.setIfInBounds_toArray, List.set_cons_zero, List.set_cons_succ, i64_w, i32_w]
    rfl
   refine one_ (i := 1) (N := some 15) #[true, true, false] rfl rfl (by kernel_rfl) (by decide) (fun K hK => ?_)
   refine sqG Try.func99 #[] ?_
   with_reducible refine (spec_l8None.calls  t668 t669 _ A27.out).mono ?_
   rintro e w50 ⟨rfl, hb⟩
   refine ⟨_, rfl, ?_⟩
   refine sqM3 BK661 BK662 BK663 hb ?_; clear BK661 BK662 BK663; intro BK661 BK662 BK663
   replace HB := sqs HB hb
   (try clear hb)
   refine hK.out _ _ sqz (fun hHeld => ?_)
   clear hK K
   refine sqnm ?_
   refine pure_ (i := 2) (N := some 16) (v := ?_) (a' := ?_) #[true, true, true] rfl rfl (by kernel_rfl) (fun _ _ _ h => h) (Or.inl ⟨by rfl, ?_⟩) ?_ ?_
   rotate_left
   ·intro w'
    go_simp
    with_reducible rfl
   rotate_left
   ·simp only [Act.put, List.setIfInBounds_toArray, List.set_cons_zero, List.set_cons_succ, i64_w, i32_w]
    rfl
   refine done_ (by kernel_rfl) ?_
   try go_wp2
   replace BK661 := sqdr BK661
   replace BK662 := sqdr BK662
   replace BK663 := sqdr BK663
   replace HB := sqdB HB
   refine sqst 3 (fun w' => w'.cell? ⟨gb662, 0, none⟩ = some (.int .i64 a1_0) ∧ w'.cell? ⟨gb662, 1, none⟩ = some (.int .i64 a1_1)) sqz (fun hHeld => ?_)
   generalize w50.drew = w51 at BK661 BK662 BK663 HB hHeld ⊢
   refine take_ (i := 0) (N := some 18) (v := ?_) (a' := ?_) #[true, false, false] rfl rfl (by kernel_rfl) (fun _ _ _ h => h) (Or.inl ⟨by rfl, ?_⟩) hHeld ?_ ?_
   rotate_left
   ·rintro w' ⟨s0, s1⟩
    go_simp
    with_reducible rfl
   rotate_left
   ·simp only [Act.put, List.setIfInBounds_toArray, List.set_cons_zero, List.set_cons_succ, i64_w, i32_w]
    rfl
   refine one_ (i := 1) (N := some 19) #[true, true, false] rfl rfl (by kernel_rfl) (by decide) (fun K hK => ?_)
   refine sqG Try.func99 #[] ?_
   with_reducible refine (spec_l8None.calls  t670 t671 _ A36.out).mono ?_
   rintro e w52 ⟨rfl, hb⟩
   refine ⟨_, rfl, ?_⟩
   refine sqM3 BK661 BK662 BK663 hb ?_; clear BK661 BK662 BK663; intro BK661 BK662 BK663
   replace HB := sqs HB hb
   (try clear hb)
   refine hK.out _ _ sqz (fun hHeld => ?_)
   clear hK K
   refine sqnm ?_
   refine pure_ (i := 2) (N := some 20) (v := ?_) (a' := ?_) #[true, true, true] rfl rfl (by kernel_rfl) (fun _ _ _ h => h) (Or.inl ⟨by rfl, ?_⟩) ?_ ?_
   rotate_left
   ·intro w'
    go_simp
    with_reducible rfl
   rotate_left
   ·simp only [Act.put, List.setIfInBounds_toArray, List.set_cons_zero, List.set_cons_succ, i64_w, i32_w]
    rfl
   refine done_ (by kernel_rfl) ?_
   try go_wp2
   replace BK661 := sqdr BK661
   replace BK662 := sqdr BK662
   replace BK663 := sqdr BK663
   replace HB := sqdB HB
   refine sqst 12 (fun w' => w'.cell? ⟨gb661, 0, none⟩ = some (.int .i64 a0_0) ∧ w'.cell? ⟨gb661, 1, none⟩ = some (.int .i64 a0_1) ∧ w'.cell? ⟨gb662, 0, none⟩ = some (.int .i64 a1_0) ∧ w'.cell? ⟨gb662, 1, none⟩ = some (.int .i64 a1_1)) sqz (fun hHeld => ?_); refine with_tabW spec_RangeJoin.tab7 spec_RangeJoin.bits7 (fun HT_ HW_ => ?_)
   generalize w52.drew = w53 at BK661 BK662 BK663 HB hHeld ⊢
   refine sqp HT_ 0 22 ?_
   refine sqp HT_ 2 24 ?_
   refine sqp HT_ 5 27 ?_
   refine sqp HT_ 7 29 ?_
   refine sqw HT_ HW_ 1 23 hHeld ?_
   refine sqw HT_ HW_ 3 25 hHeld ?_
   refine sqw HT_ HW_ 6 28 hHeld ?_
   refine sqw HT_ HW_ 8 30 hHeld ?_
   refine sqo HT_ 4 26 (fun K hK => ?_)
   refine sqG Try.func134 #[.int .i64 a0_0, .int .i64 a1_0] ?_
   with_reducible refine (spec_l8Min.calls a0_0 a1_0 t672 _ A47.out).mono ?_
   rintro e w' ⟨rfl, ⟨nd, rfl⟩⟩
   refine ⟨_, rfl, ?_⟩
   refine hK.out _ _ sqz (fun hHeld => ?_)
   clear hK K
   refine sqnm ?_
   refine sqo HT_ 9 31 (fun K hK => ?_)
   refine sqG Try.func122 #[.int .i64 a0_1, .int .i64 a1_1] ?_
   with_reducible refine (spec_l8Max.calls a0_1 a1_1 t673 _ A48.out).mono ?_
   rintro e w' ⟨rfl, ⟨nd, rfl⟩⟩
   refine ⟨_, rfl, ?_⟩
   refine hK.out _ _ sqz (fun hHeld => ?_)
   clear hK K
   refine sqnm ?_
   refine sqp HT_ 10 32 ?_
   refine one_ (i := 11) (N := none) #[true, true, true, true, true, true, true, true, true, true, true, true] rfl rfl (one_of HT_.out (by kernel_rfl)) (by decide) (fun K hK => ?_)
   have hs54 : w53.cell? ⟨gb663, 0, none⟩ = some (.int .i64 0) := (blk_cell BK663.out 0).trans rfl
   have hfs54 := blk_frozen BK663.out 0
   have hns54_0 := NB661_663.out
   have hns54_1 := NB662_663.out
   have hms54_0 := NB663_661.out
   have hms54_1 := NB663_662.out
   have hs55 : w53.cell? ⟨gb663, 1, none⟩ = some (.int .i64 0) := (blk_cell BK663.out 1).trans rfl
   have hfs55 := blk_frozen BK663.out 1
   have hns55_0 := NB661_663.out
   have hns55_1 := NB662_663.out
   have hms55_0 := NB663_661.out
   have hms55_1 := NB663_662.out
   refine skip_ (w1 := ?_) (by rfl) rfl ?_ ?_
   rotate_left
   ·go_simp
    rfl
   refine hK.out _ _ ⟨(sqfa NB661_663 ((sqfa NB661_663 (hHeld.1)))), (sqfa NB661_663 ((sqfa NB661_663 (hHeld.2.1)))), (sqfa NB662_663 ((sqfa NB662_663 (hHeld.2.2.1)))), (sqfa NB662_663 ((sqfa NB662_663 (hHeld.2.2.2))))⟩ (fun hHeld => ?_)
   clear hK K
   refine done_ (done_of HT_.out (by kernel_rfl)) ?_
   try go_wp2
   refine bodyPost_ret (results_cell_row rfl _ _ gb663 24 #[.int .i64 t672, .int .i64 t673] (0, 0) _ rfl (sqP BK663) Try.underlying24 rfl (by kernel_rfl)) rfl ?_
   exact sqe HB

end Go.Proofs.Ytkekcenlleebeaa.PFnValLattice
