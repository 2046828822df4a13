/- Functions of the program as plain Lean functions, and that calls of them come to what these tell. Conditions: those in each law. -/
import Derived.Test.YtkekcenlleebeaaSq
import Derived.Test.YtkekcenlleebeaaDFnValLattice
import Derived.Test.YtkekcenlleebeaaQFnValLatticex0
import Derived.Test.YtkekcenlleebeaaQFnValLatticex1
import Derived.Test.YtkekcenlleebeaaQFnValLatticex6
import Derived.Test.YtkekcenlleebeaaQFnValLatticex7
import Derived.Test.YtkekcenlleebeaaQFnValLatticex8
namespace Go.Proofs.Ytkekcenlleebeaa.PFnValLattice
open Go.RowKit Go.Proofs.Ytkekcenlleebeaa.Sq Go.Proofs.YtkekcenlleebeaaW.PrintWords Go.Proofs.YtkekcenlleebeaaW.PrintLast Go.Proofs.YtkekcenlleebeaaW.PrintMore
attribute [local go_sem] max2_int min2_int max_two min_two max_three min_three max_four min_four   -- for this text's walks alone
set_option linter.unusedVariables false
set_option linter.unusedSimpArgs false

attribute [local go_sem high] eqA24
/-! ### spec_ValMake: function 17 -/
def spec_ValMake.T1 : Bool × List (List Nat × List Nat) := (true, [([], []), ([0], [0]), ([1], [1]), ([2, 1], [2]), ([3], [3]), ([4, 3, 3], [3, 4]), ([5, 3], [3, 5]), ([3, 6], [3, 6]), ([7, 5], [7]), ([8], [8]), ([8, 8], [8]), ([9, 10, 8], [8, 9, 10]), ([8, 11], [8, 11])])
def spec_ValMake.B1 : List Nat := [0, 1, 3, 7, 15, 31, 63, 127, 255, 511, 511, 2047, 4095]
theorem spec_ValMake.tab1 : rtab .any (opsOf Try.f17 1) = spec_ValMake.T1 := by kernel_rfl
theorem spec_ValMake.bits1 : waitsOk spec_ValMake.T1.2 spec_ValMake.B1 = true := by kernel_rfl
def spec_ValMake.T7 : Bool × List (List Nat × List Nat) := (true, [([], []), ([0], [0]), ([], []), ([2], [2]), ([], []), ([4], [4]), ([3, 5], [3, 5]), ([], []), ([7], [7]), ([6, 8], [6, 8]), ([1, 9], [1, 9]), ([10, 9, 0, 1, 2, 3, 4, 5, 6, 7, 8, 9, 10], [10])])
def spec_ValMake.B7 : List Nat := [0, 1, 0, 4, 0, 16, 60, 0, 128, 508, 1023, 2047]
theorem spec_ValMake.tab7 : rtab .any (opsOf Try.f17 7) = spec_ValMake.T7 := by kernel_rfl
theorem spec_ValMake.bits7 : waitsOk spec_ValMake.T7.2 spec_ValMake.B7 = true := by kernel_rfl
def spec_ValMake.T8 : Bool × List (List Nat × List Nat) := (true, [([], []), ([0], [0]), ([], []), ([2], [2]), ([], []), ([4], [4]), ([3, 5], [3, 5]), ([], []), ([7], [7]), ([6, 8], [6, 8]), ([1, 9], [1, 9]), ([10, 9, 0, 1, 2, 3, 4, 5, 6, 7, 8, 9, 10], [10])])
def spec_ValMake.B8 : List Nat := [0, 1, 0, 4, 0, 16, 60, 0, 128, 508, 1023, 2047]
theorem spec_ValMake.tab8 : rtab .any (opsOf Try.f17 8) = spec_ValMake.T8 := by kernel_rfl
theorem spec_ValMake.bits8 : waitsOk spec_ValMake.T8.2 spec_ValMake.B8 = true := by kernel_rfl
set_option maxHeartbeats 8000000 in
set_option maxRecDepth 100000 in
theorem spec_ValMake.calls (k : Nat) (a0_0 : Int) (a0_1 : Int) (a1_0 : Int) (a1_1 : Int) (r1 : Int) (r2 : Int) (r3 : Int) (r4 : Int) (w : World) (h : spec_ValMake.f k a0_0 a0_1 a1_0 a1_1 = some (r1, r2, r3, r4)) :
  Calls Try.prog 17 #[.agg #[.int .i64 a0_0, .int .i64 a0_1], .agg #[.int .i64 a1_0, .int .i64 a1_1]] w fun e w' => e = .returned (.agg #[.int .i64 r1, .int .i64 r2, .int .i64 r3, .int .i64 r4]) ∧ Below w.heap.size w w' := by
 have hu24 := Try.underlying24
 have hu26 := Try.underlying26
 have hu30 := Try.underlying30
 have HB := Aside0.mk (Below.refl w.heap.size w)
 have H := h
 unfold spec_ValMake.f at H
 clear h
 have HC3 := Aside0.mk H
 clear H
 go_enter Try.func17, Try.ntmps17
 go_upto_region 1 with (first | ((with_reducible refine gate_dst (N := 2) rfl ?_); refine sqx 2 #[.int .i64 a0_0, .int .i64 a0_1] 24 ?_; intro gb184 hg w4 hbox hb; have BK184 := Aside0.mk hbox; have GW184 := sqg HB hg; replace HB := sqs HB hb; clear hb hbox hg) | ((with_reducible refine gate_dst (N := 3) rfl ?_); refine sqx 3 #[.int .i64 a1_0, .int .i64 a1_1] 26 ?_; intro gb185 hg w5 hbox hb; have BK185 := Aside0.mk hbox; have GW185 := sqg HB hg; have NB184_185 := sqn BK184 hg; have NB185_184 := sqm BK184 hg; replace BK184 := sqb BK184 hb; replace HB := sqs HB hb; clear hb hbox hg) | ((with_reducible refine gate_dst (N := 4) rfl ?_); refine sqx 4 #[.int .i64 0, .int .i64 0, .int .i64 0, .int .i64 0] 30 ?_; intro gb186 hg w6 hbox hb; have BK186 := Aside0.mk hbox; have GW186 := sqg HB hg; have NB184_186 := sqn BK184 hg; have NB186_184 := sqm BK184 hg; have NB185_186 := sqn BK185 hg; have NB186_185 := sqm BK185 hg; refine sqM2 BK184 BK185 hb ?_; clear BK184 BK185; intro BK184 BK185; replace HB := sqs HB hb; clear hb hbox hg))
 (try simp only [Act.put, List.setIfInBounds_toArray, List.set_cons_zero, List.set_cons_succ])
 go_cut [19] (fun v19 wc => ∃ (kq : Nat) (x19_2 : Bool), v19 = .bool x19_2 ∧ Aside0 (spec_ValMake.j0 kq x19_2 a0_0 a0_1 a1_0 a1_1 = some (r1, r2, r3, r4)) ∧ Aside0 (kq ≤ k) ∧ Aside0 (wc.heap[gb184]? = some (.cells #[.int .i64 a0_0, .int .i64 a0_1] 24 (0, 0))) ∧ Aside0 (wc.heap[gb185]? = some (.cells #[.int .i64 a1_0, .int .i64 a1_1] 26 (0, 0))) ∧ Aside0 (wc.heap[gb186]? = some (.cells #[.int .i64 0, .int .i64 0, .int .i64 0, .int .i64 0] 30 (0, 0))) ∧ Aside0 (Below w.heap.size w wc))
 case first =>
  have H := HC3.out
  clear HC3
  replace H := sqbi H
  obtain ⟨t187, A7, H⟩ := H
  try dsimp only at H
  rcases sqI (t187 = true) with c8 | c8
  ·replace c8 := Bool.eq_false_iff.mpr c8
   subst c8
   have H1 : (spec_ValMake.j0 k true a0_0 a0_1 a1_0 a1_1) = some (r1, r2, r3, r4) := by rw [if_neg (show ¬ (false = true) by decide)] at H; exact H
   clear H
   have H := H1
   clear H1
   have H' := Aside0.mk H
   clear H
   try go_wp2
   replace BK184 := sqdr BK184
   replace BK185 := sqdr BK185
   replace BK186 := sqdr BK186
   replace HB := sqdB HB
   refine sqst 13 (fun w' => w'.cell? ⟨gb184, 0, none⟩ = some (.int .i64 a0_0) ∧ w'.cell? ⟨gb184, 1, none⟩ = some (.int .i64 a0_1)) sqz (fun hHeld => ?_); refine with_tabW spec_ValMake.tab1 spec_ValMake.bits1 (fun HT_ HW_ => ?_)
   generalize w6.drew = w19 at BK184 BK185 BK186 HB hHeld ⊢
   refine sqw HT_ HW_ 0 7 hHeld ?_
   refine sqo HT_ 1 8 (fun K hK => ?_)
   refine sqG Try.func45 #[.agg #[.int .i64 a0_0, .int .i64 a0_1]] ?_
   with_reducible refine (spec_RangeOk.calls a0_0 a0_1 false _ A7.out).mono ?_
   rintro e w20 ⟨rfl, hb⟩
   refine ⟨_, rfl, ?_⟩
   refine sqM3 BK184 BK185 BK186 hb ?_; clear BK184 BK185 BK186; intro BK184 BK185 BK186
   replace HB := sqs HB hb
   (try clear hb)
   refine hK.out _ _ sqz (fun hHeld => ?_)
   clear hK K
   refine sqnm ?_
   refine sqp HT_ 2 9 ?_
   refine sqp HT_ 3 10 ?_
   refine sqpu HT_ 4 11 ?_
   refine sqpu HT_ 5 12 ?_
   refine sqpu HT_ 6 13 ?_
   refine sqp HT_ 7 14 ?_
   refine sqp HT_ 8 15 ?_
   refine sqpu HT_ 9 16 ?_
   refine sqpu HT_ 10 17 ?_
   refine sqpu HT_ 11 18 ?_
   refine sqp HT_ 12 19 ?_
   refine done_ (done_of HT_.out (by kernel_rfl)) ?_
   try go_wp2
   go_meet
   case rel => exact ⟨_, (true), (by first | rfl | (simp; done) | (simp [*]; done)), H', ⟨by first | omega | exact Nat.le_refl _⟩, sqk BK184, sqk BK185, sqk BK186, sqh HB⟩
  subst c8
  have H1 : ((spec_RestOk.f a1_0 a1_1).bind fun t188 => (if t188 = true then ((spec_l8None.f).bind fun bt189 => (spec_ValMake.j0 k (a0_0 == bt189.1 && (a0_1 == bt189.2)) a0_0 a0_1 a1_0 a1_1)) else (spec_ValMake.j0 k true a0_0 a0_1 a1_0 a1_1))) = some (r1, r2, r3, r4) := by rw [if_pos rfl] at H; exact H
  clear H
  have H := H1
  clear H1
  replace H := sqbi H
  obtain ⟨t188, A9, H⟩ := H
  try dsimp only at H
  rcases sqI (t188 = true) with c10 | c10
  ·replace c10 := Bool.eq_false_iff.mpr c10
   subst c10
   have H1 : (spec_ValMake.j0 k true a0_0 a0_1 a1_0 a1_1) = some (r1, r2, r3, r4) := by rw [if_neg (show ¬ (false = true) by decide)] at H; exact H
   clear H
   have H := H1
   clear H1
   have H' := Aside0.mk H
   clear H
   try go_wp2
   replace BK184 := sqdr BK184
   replace BK185 := sqdr BK185
   replace BK186 := sqdr BK186
   replace HB := sqdB HB
   refine sqst 13 (fun w' => w'.cell? ⟨gb184, 0, none⟩ = some (.int .i64 a0_0) ∧ w'.cell? ⟨gb184, 1, none⟩ = some (.int .i64 a0_1) ∧ w'.cell? ⟨gb185, 0, none⟩ = some (.int .i64 a1_0) ∧ w'.cell? ⟨gb185, 1, none⟩ = some (.int .i64 a1_1)) sqz (fun hHeld => ?_); refine with_tabW spec_ValMake.tab1 spec_ValMake.bits1 (fun HT_ HW_ => ?_)
   generalize w6.drew = w16 at BK184 BK185 BK186 HB hHeld ⊢
   refine sqw HT_ HW_ 0 7 hHeld ?_
   refine sqo HT_ 1 8 (fun K hK => ?_)
   refine sqG Try.func45 #[.agg #[.int .i64 a0_0, .int .i64 a0_1]] ?_
   with_reducible refine (spec_RangeOk.calls a0_0 a0_1 true _ A7.out).mono ?_
   rintro e w17 ⟨rfl, hb⟩
   refine ⟨_, rfl, ?_⟩
   refine sqM3 BK184 BK185 BK186 hb ?_; clear BK184 BK185 BK186; intro BK184 BK185 BK186
   replace HB := sqs HB hb
   (try clear hb)
   refine hK.out _ _ sqz (fun hHeld => ?_)
   clear hK K
   refine sqnm ?_
   refine sqp HT_ 2 9 ?_
   refine sqp HT_ 3 10 ?_
   refine sqw HT_ HW_ 4 11 hHeld ?_
   refine sqo HT_ 5 12 (fun K hK => ?_)
   refine sqG Try.func66 #[.agg #[.int .i64 a1_0, .int .i64 a1_1]] ?_
   with_reducible refine (spec_RestOk.calls a1_0 a1_1 false _ A9.out).mono ?_
   rintro e w18 ⟨rfl, hb⟩
   refine ⟨_, rfl, ?_⟩
   refine sqM3 BK184 BK185 BK186 hb ?_; clear BK184 BK185 BK186; intro BK184 BK185 BK186
   replace HB := sqs HB hb
   (try clear hb)
   refine hK.out _ _ sqz (fun hHeld => ?_)
   clear hK K
   refine sqnm ?_
   refine sqp HT_ 6 13 ?_
   refine sqp HT_ 7 14 ?_
   refine sqp HT_ 8 15 ?_
   refine sqpu HT_ 9 16 ?_
   refine sqpu HT_ 10 17 ?_
   refine sqpu HT_ 11 18 ?_
   refine sqp HT_ 12 19 ?_
   refine done_ (done_of HT_.out (by kernel_rfl)) ?_
   try go_wp2
   go_meet
   case rel => exact ⟨_, (true), (by first | rfl | (simp; done) | (simp [*]; done)), H', ⟨by first | omega | exact Nat.le_refl _⟩, sqk BK184, sqk BK185, sqk BK186, sqh HB⟩
  subst c10
  have H1 : ((spec_l8None.f).bind fun bt189 => (spec_ValMake.j0 k (a0_0 == bt189.1 && (a0_1 == bt189.2)) a0_0 a0_1 a1_0 a1_1)) = some (r1, r2, r3, r4) := by rw [if_pos rfl] at H; exact H
  clear H
  have H := H1
  clear H1
  replace H := sqbi H
  obtain ⟨⟨t189, t190⟩, A11, H⟩ := H
  try dsimp only at H
  have H' := Aside0.mk H
  clear H
  try go_wp2
  replace BK184 := sqdr BK184
  replace BK185 := sqdr BK185
  replace BK186 := sqdr BK186
  replace HB := sqdB HB
  refine sqst 13 (fun w' => w'.cell? ⟨gb184, 0, none⟩ = some (.int .i64 a0_0) ∧ w'.cell? ⟨gb184, 1, none⟩ = some (.int .i64 a0_1) ∧ w'.cell? ⟨gb185, 0, none⟩ = some (.int .i64 a1_0) ∧ w'.cell? ⟨gb185, 1, none⟩ = some (.int .i64 a1_1)) sqz (fun hHeld => ?_); refine with_tabW spec_ValMake.tab1 spec_ValMake.bits1 (fun HT_ HW_ => ?_)
  generalize w6.drew = w12 at BK184 BK185 BK186 HB hHeld ⊢
  refine sqw HT_ HW_ 0 7 hHeld ?_
  refine sqo HT_ 1 8 (fun K hK => ?_)
  refine sqG Try.func45 #[.agg #[.int .i64 a0_0, .int .i64 a0_1]] ?_
  with_reducible refine (spec_RangeOk.calls a0_0 a0_1 true _ A7.out).mono ?_
  rintro e w13 ⟨rfl, hb⟩
  refine ⟨_, rfl, ?_⟩
  refine sqM3 BK184 BK185 BK186 hb ?_; clear BK184 BK185 BK186; intro BK184 BK185 BK186
  replace HB := sqs HB hb
  (try clear hb)
  refine hK.out _ _ sqz (fun hHeld => ?_)
  clear hK K
  refine sqnm ?_
  refine sqp HT_ 2 9 ?_
  refine sqp HT_ 3 10 ?_
  refine sqw HT_ HW_ 4 11 hHeld ?_
  refine sqo HT_ 5 12 (fun K hK => ?_)
  refine sqG Try.func66 #[.agg #[.int .i64 a1_0, .int .i64 a1_1]] ?_
  with_reducible refine (spec_RestOk.calls a1_0 a1_1 true _ A9.out).mono ?_
  rintro e w14 ⟨rfl, hb⟩
  refine ⟨_, rfl, ?_⟩
  refine sqM3 BK184 BK185 BK186 hb ?_; clear BK184 BK185 BK186; intro BK184 BK185 BK186
  replace HB := sqs HB hb
  (try clear hb)
  refine hK.out _ _ sqz (fun hHeld => ?_)
  clear hK K
  refine sqnm ?_
  refine sqp HT_ 6 13 ?_
  refine sqp HT_ 7 14 ?_
  refine sqp HT_ 8 15 ?_
  refine sqw HT_ HW_ 9 16 hHeld ?_
  refine sqo HT_ 10 17 (fun K hK => ?_)
  refine sqG Try.func99 #[] ?_
  with_reducible refine (spec_l8None.calls  t189 t190 _ A11.out).mono ?_
  rintro e w15 ⟨rfl, hb⟩
  refine ⟨_, rfl, ?_⟩
  refine sqM3 BK184 BK185 BK186 hb ?_; clear BK184 BK185 BK186; intro BK184 BK185 BK186
  replace HB := sqs HB hb
  (try clear hb)
  refine hK.out _ _ sqz (fun hHeld => ?_)
  clear hK K
  refine sqnm ?_
  refine sqp HT_ 11 18 ?_
  refine sqp HT_ 12 19 ?_
  refine done_ (done_of HT_.out (by kernel_rfl)) ?_
  try go_wp2
  go_meet
  case rel => exact ⟨_, ((a0_0 == t189 && (a0_1 == t190))), (by first | rfl | (simp; done) | (simp [*]; done)), H', ⟨by first | omega | exact Nat.le_refl _⟩, sqk BK184, sqk BK185, sqk BK186, sqh HB⟩
 case rest =>
  clear HC3
  obtain ⟨kq, x19_2, rfl, HA, HJ2, BK184, BK185, BK186, HB⟩ := hcut
  cases kq with
  | zero => exact absurd HA.out (by simp [spec_ValMake.j0])
  | succ kj2 =>
   have H := HA.out
   clear HA
   simp only [spec_ValMake.j0] at H
   by_cases c21 : x19_2 = true
   ·subst c21
    have H1 : ((spec_l10None.f).bind fun bt191 => (some (bt191.1, bt191.2.1, bt191.2.2.1, bt191.2.2.2))) = some (r1, r2, r3, r4) := by rw [if_pos rfl] at H; exact H
    clear H
    have H := H1
    clear H1
    replace H := sqbi H
    obtain ⟨⟨t191, t192, t193, t194⟩, A22, H⟩ := H
    try dsimp only at H
    simp only [Option.some.injEq, Prod.mk.injEq] at H
    obtain ⟨rfl, rfl, rfl, rfl⟩ := H
    go_wp2_with (first | ((with_reducible refine gate_callee (f := 100) rfl ?_); refine sqL (some 20) Try.func100 #[] ?_; (with_reducible refine (spec_l10None.calls  t191 t192 t193 t194 _ A22.out).mono ?_); rintro e w23 ⟨rfl, hb⟩; refine ⟨_, rfl, ?_⟩; refine sqM3 BK184 BK185 BK186 hb ?_; clear BK184 BK185 BK186; intro BK184 BK185 BK186; replace HB := sqs HB hb; (try clear hb); obtain ⟨_, _, _, _⟩ := sqN2 NB186_184 NB186_185; obtain ⟨_, _, _, _, _, _, _, _⟩ := sqc4 BK186))
    refine bodyPost_ret (results_cell_row rfl _ _ gb186 30 #[.int .i64 t191, .int .i64 t192, .int .i64 t193, .int .i64 t194] (0, 0) _ rfl (sqP BK186) Try.underlying30 rfl (by kernel_rfl)) rfl ?_
    exact sqe HB
   replace c21 := Bool.eq_false_iff.mpr c21
   subst c21
   have H1 : (if a1_0 = 0 then ((spec_RangeHas.f a0_0 a0_1 a1_1).bind fun t195 => (if t195 = true then ((spec_l10One.f a1_1).bind fun bt196 => (some (bt196.1, bt196.2.1, bt196.2.2.1, bt196.2.2.2))) else ((spec_l10None.f).bind fun bt200 => (some (bt200.1, bt200.2.1, bt200.2.2.1, bt200.2.2.2))))) else ((spec_l1Mod.f (wrap64 (a1_1 - a0_0)) a1_0).bind fun t204 => ((spec_l1Mod.f (wrap64 (a0_1 - a1_1)) a1_0).bind fun t205 => (if (wrap64 (a0_0 + t204)) > (wrap64 (a0_1 - t205)) then ((spec_l10None.f).bind fun bt206 => (some (bt206.1, bt206.2.1, bt206.2.2.1, bt206.2.2.2))) else (if (wrap64 (a0_0 + t204)) = (wrap64 (a0_1 - t205)) then ((spec_l10One.f (wrap64 (a0_0 + t204))).bind fun bt210 => (some (bt210.1, bt210.2.1, bt210.2.2.1, bt210.2.2.2))) else (some (wrap64 (a0_0 + t204), wrap64 (a0_1 - t205), a1_0, a1_1))))))) = some (r1, r2, r3, r4) := by rw [if_neg (show ¬ (false = true) by decide)] at H; exact H
   clear H
   have H := H1
   clear H1
   replace H := sqj H
   rcases H with ⟨c27, H⟩ | ⟨c27, H⟩
   ·have c27b0 : (a1_0 == 0) = true := beq_iff_eq.mpr c27
    have c27b1 : (a1_0 != 0) = false := bne_eq_false_iff_eq.mpr c27
    clear c27
    replace H := sqbi H
    obtain ⟨t195, A28, H⟩ := H
    try dsimp only at H
    rcases sqI (t195 = true) with c29 | c29
    ·replace c29 := Bool.eq_false_iff.mpr c29
     subst c29
     have H1 : ((spec_l10None.f).bind fun bt200 => (some (bt200.1, bt200.2.1, bt200.2.2.1, bt200.2.2.2))) = some (r1, r2, r3, r4) := by rw [if_neg (show ¬ (false = true) by decide)] at H; exact H
     clear H
     have H := H1
     clear H1
     replace H := sqbi H
     obtain ⟨⟨t200, t201, t202, t203⟩, A40, H⟩ := H
     try dsimp only at H
     simp only [Option.some.injEq, Prod.mk.injEq] at H
     obtain ⟨rfl, rfl, rfl, rfl⟩ := H
     obtain ⟨_, _, _, _⟩ := sqN2 NB185_184 NB185_186
     obtain ⟨_, _, _, _⟩ := sqc2 BK185
     obtain ⟨_, _⟩ := sqN1 NB184_186
     obtain ⟨_, _, _, _⟩ := sqc2 BK184
     go_wp2_with (first | ((with_reducible refine gate_callee (f := 22) rfl ?_); refine sqL (some 27) Try.func22 #[.agg #[.int .i64 a0_0, .int .i64 a0_1], .int .i64 a1_1] ?_; (with_reducible refine (spec_RangeHas.calls a0_0 a0_1 a1_1 false _ A28.out).mono ?_); rintro e w46 ⟨rfl, hb⟩; refine ⟨_, rfl, ?_⟩; refine sqM3 BK184 BK185 BK186 hb ?_; clear BK184 BK185 BK186; intro BK184 BK185 BK186; replace HB := sqs HB hb; (try clear hb)) | ((with_reducible refine gate_callee (f := 100) rfl ?_); refine sqL (some 31) Try.func100 #[] ?_; (with_reducible refine (spec_l10None.calls  t200 t201 t202 t203 _ A40.out).mono ?_); rintro e w47 ⟨rfl, hb⟩; refine ⟨_, rfl, ?_⟩; refine sqM3 BK184 BK185 BK186 hb ?_; clear BK184 BK185 BK186; intro BK184 BK185 BK186; replace HB := sqs HB hb; (try clear hb); obtain ⟨_, _, _, _, _, _, _, _⟩ := sqc4 BK186))
     refine bodyPost_ret (results_cell_row rfl _ _ gb186 30 #[.int .i64 t200, .int .i64 t201, .int .i64 t202, .int .i64 t203] (0, 0) _ rfl (sqP BK186) Try.underlying30 rfl (by kernel_rfl)) rfl ?_
     exact sqe HB
    subst c29
    have H1 : ((spec_l10One.f a1_1).bind fun bt196 => (some (bt196.1, bt196.2.1, bt196.2.2.1, bt196.2.2.2))) = some (r1, r2, r3, r4) := by rw [if_pos rfl] at H; exact H
    clear H
    have H := H1
    clear H1
    replace H := sqbi H
    obtain ⟨⟨t196, t197, t198, t199⟩, A30, H⟩ := H
    try dsimp only at H
    simp only [Option.some.injEq, Prod.mk.injEq] at H
    obtain ⟨rfl, rfl, rfl, rfl⟩ := H
    obtain ⟨_, _, _, _⟩ := sqN2 NB185_184 NB185_186
    obtain ⟨_, _, _, _⟩ := sqc2 BK185
    obtain ⟨_, _⟩ := sqN1 NB184_186
    obtain ⟨_, _, _, _⟩ := sqc2 BK184
    go_wp2_with (first | ((with_reducible refine gate_callee (f := 22) rfl ?_); refine sqL (some 27) Try.func22 #[.agg #[.int .i64 a0_0, .int .i64 a0_1], .int .i64 a1_1] ?_; (with_reducible refine (spec_RangeHas.calls a0_0 a0_1 a1_1 true _ A28.out).mono ?_); rintro e w36 ⟨rfl, hb⟩; refine ⟨_, rfl, ?_⟩; refine sqM3 BK184 BK185 BK186 hb ?_; clear BK184 BK185 BK186; intro BK184 BK185 BK186; replace HB := sqs HB hb; (try clear hb); obtain ⟨_, _, _, _⟩ := sqc2 BK185) | ((with_reducible refine gate_callee (f := 101) rfl ?_); refine sqL (some 30) Try.func101 #[.int .i64 a1_1] ?_; (with_reducible refine (spec_l10One.calls a1_1 t196 t197 t198 t199 _ A30.out).mono ?_); rintro e w38 ⟨rfl, hb⟩; refine ⟨_, rfl, ?_⟩; refine sqM3 BK184 BK185 BK186 hb ?_; clear BK184 BK185 BK186; intro BK184 BK185 BK186; replace HB := sqs HB hb; (try clear hb); obtain ⟨_, _, _, _, _, _, _, _⟩ := sqc4 BK186))
    refine bodyPost_ret (results_cell_row rfl _ _ gb186 30 #[.int .i64 t196, .int .i64 t197, .int .i64 t198, .int .i64 t199] (0, 0) _ rfl (sqP BK186) Try.underlying30 rfl (by kernel_rfl)) rfl ?_
    exact sqe HB
   have c27b0 : (a1_0 == 0) = false := beq_eq_false_iff_ne.mpr c27
   have c27b1 : (a1_0 != 0) = true := bne_iff_ne.mpr c27
   replace H := sqbi H
   obtain ⟨t204, A49, H⟩ := H
   try dsimp only at H
   replace H := sqbi H
   obtain ⟨t205, A50, H⟩ := H
   try dsimp only at H
   replace H := sqj H
   rcases H with ⟨c51, H⟩ | ⟨c51, H⟩
   ·have c51b0 : decide ((wrap64 (a0_1 - t205)) < (wrap64 (a0_0 + t204))) = true := decide_eq_true c51
    clear c51
    replace H := sqbi H
    obtain ⟨⟨t206, t207, t208, t209⟩, A52, H⟩ := H
    try dsimp only at H
    simp only [Option.some.injEq, Prod.mk.injEq] at H
    obtain ⟨rfl, rfl, rfl, rfl⟩ := H
    obtain ⟨_, _, _, _⟩ := sqN2 NB185_184 NB185_186
    obtain ⟨_, _, _, _⟩ := sqc2 BK185
    try go_wp2
    replace BK184 := sqdr BK184
    replace BK185 := sqdr BK185
    replace BK186 := sqdr BK186
    replace HB := sqdB HB
    refine sqst 12 (fun w' => w'.cell? ⟨gb184, 0, none⟩ = some (.int .i64 a0_0) ∧ w'.cell? ⟨gb184, 1, none⟩ = some (.int .i64 a0_1) ∧ w'.cell? ⟨gb185, 0, none⟩ = some (.int .i64 a1_0) ∧ w'.cell? ⟨gb185, 1, none⟩ = some (.int .i64 a1_1)) sqz (fun hHeld => ?_); refine with_tabW spec_ValMake.tab7 spec_ValMake.bits7 (fun HT_ HW_ => ?_)
    generalize wc.drew = w56 at BK184 BK185 BK186 HB hHeld ⊢
    refine sqp HT_ 0 32 ?_
    refine sqp HT_ 2 34 ?_
    refine sqp HT_ 4 36 ?_
    refine sqp HT_ 7 39 ?_
    refine sqw HT_ HW_ 1 33 hHeld ?_
    refine sqw HT_ HW_ 3 35 hHeld ?_
    refine sqw HT_ HW_ 5 37 hHeld ?_
    refine sqp HT_ 6 38 ?_
    refine sqw HT_ HW_ 8 40 hHeld ?_
    refine sqo HT_ 9 41 (fun K hK => ?_)
    refine sqG Try.func102 #[.int .i64 (wrap64 (a1_1 - a0_0)), .int .i64 a1_0] ?_
    with_reducible refine (spec_l1Mod.calls (wrap64 (a1_1 - a0_0)) a1_0 t204 _ A49.out).mono ?_
    rintro e w' ⟨rfl, ⟨nd, rfl⟩⟩
    refine ⟨_, rfl, ?_⟩
    refine hK.out _ _ sqz (fun hHeld => ?_)
    clear hK K
    refine sqnm ?_
    refine sqp HT_ 10 42 ?_
    refine sqp HT_ 11 5 ?_
    refine done_ (done_of HT_.out (by kernel_rfl)) ?_
    try go_wp2
    (try (rw [drewN_self w56]; generalize hq_ : World.drewN w56 _ = w56; replace BK184 := sqq BK184 hq_; replace BK185 := sqq BK185 hq_; replace BK186 := sqq BK186 hq_; replace HB := sqr HB hq_; clear hq_; obtain ⟨hqz1_0, hqz1_1, hqf1_0, hqf1_1⟩ := sqc2 BK184; obtain ⟨hqz2_0, hqz2_1, hqf2_0, hqf2_1⟩ := sqc2 BK185; obtain ⟨hqz3_0, hqz3_1, hqz3_2, hqz3_3, hqf3_0, hqf3_1, hqf3_2, hqf3_3⟩ := sqc4 BK186))
    replace BK184 := sqdr BK184
    replace BK185 := sqdr BK185
    replace BK186 := sqdr BK186
    replace HB := sqdB HB
    refine sqst 12 (fun w' => w'.cell? ⟨gb184, 0, none⟩ = some (.int .i64 a0_0) ∧ w'.cell? ⟨gb184, 1, none⟩ = some (.int .i64 a0_1) ∧ w'.cell? ⟨gb185, 0, none⟩ = some (.int .i64 a1_0) ∧ w'.cell? ⟨gb185, 1, none⟩ = some (.int .i64 a1_1)) sqz (fun hHeld => ?_); refine with_tabW spec_ValMake.tab8 spec_ValMake.bits8 (fun HT_ HW_ => ?_)
    generalize w56.drew = w57 at BK184 BK185 BK186 HB hHeld ⊢
    refine sqp HT_ 0 43 ?_
    refine sqp HT_ 2 45 ?_
    refine sqp HT_ 4 47 ?_
    refine sqp HT_ 7 50 ?_
    refine sqw HT_ HW_ 1 44 hHeld ?_
    refine sqw HT_ HW_ 3 46 hHeld ?_
    refine sqw HT_ HW_ 5 48 hHeld ?_
    refine sqp HT_ 6 49 ?_
    refine sqw HT_ HW_ 8 51 hHeld ?_
    refine sqo HT_ 9 52 (fun K hK => ?_)
    refine sqG Try.func102 #[.int .i64 (wrap64 (a0_1 - a1_1)), .int .i64 a1_0] ?_
    with_reducible refine (spec_l1Mod.calls (wrap64 (a0_1 - a1_1)) a1_0 t205 _ A50.out).mono ?_
    rintro e w' ⟨rfl, ⟨nd, rfl⟩⟩
    refine ⟨_, rfl, ?_⟩
    refine hK.out _ _ sqz (fun hHeld => ?_)
    clear hK K
    refine sqnm ?_
    refine sqp HT_ 10 53 ?_
    refine sqp HT_ 11 6 ?_
    refine done_ (done_of HT_.out (by kernel_rfl)) ?_
    try go_wp2_with (first | ((with_reducible refine gate_callee (f := 100) rfl ?_); refine sqL (some 57) Try.func100 #[] ?_; (with_reducible refine (spec_l10None.calls  t206 t207 t208 t209 _ A52.out).mono ?_); rintro e w58 ⟨rfl, hb⟩; refine ⟨_, rfl, ?_⟩; refine sqM3 BK184 BK185 BK186 hb ?_; clear BK184 BK185 BK186; intro BK184 BK185 BK186; replace HB := sqs HB hb; (try clear hb); obtain ⟨_, _⟩ := sqN1 NB186_184; obtain ⟨_, _, _, _, _, _, _, _⟩ := sqc4 BK186))
    refine bodyPost_ret (results_cell_row rfl _ _ gb186 30 #[.int .i64 t206, .int .i64 t207, .int .i64 t208, .int .i64 t209] (0, 0) _ rfl (sqP BK186) Try.underlying30 rfl (by kernel_rfl)) rfl ?_
    exact sqe HB
   have c51b0 : decide ((wrap64 (a0_1 - t205)) < (wrap64 (a0_0 + t204))) = false := decide_eq_false c51
   clear c51
   replace H := sqi H
   rcases H with ⟨c61, H⟩ | ⟨c61, H⟩
   ·have c61b0 : ((wrap64 (a0_0 + t204)) == (wrap64 (a0_1 - t205))) = false := beq_eq_false_iff_ne.mpr c61
    have c61b1 : ((wrap64 (a0_0 + t204)) != (wrap64 (a0_1 - t205))) = true := bne_iff_ne.mpr c61
    simp only [Option.some.injEq, Prod.mk.injEq] at H
    obtain ⟨rfl, rfl, rfl, rfl⟩ := H
    obtain ⟨_, _, _, _⟩ := sqN2 NB185_184 NB185_186
    obtain ⟨_, _, _, _⟩ := sqc2 BK185
    try go_wp2
    replace BK184 := sqdr BK184
    replace BK185 := sqdr BK185
    replace BK186 := sqdr BK186
    replace HB := sqdB HB
    refine sqst 12 (fun w' => w'.cell? ⟨gb184, 0, none⟩ = some (.int .i64 a0_0) ∧ w'.cell? ⟨gb184, 1, none⟩ = some (.int .i64 a0_1) ∧ w'.cell? ⟨gb185, 0, none⟩ = some (.int .i64 a1_0) ∧ w'.cell? ⟨gb185, 1, none⟩ = some (.int .i64 a1_1)) sqz (fun hHeld => ?_); refine with_tabW spec_ValMake.tab7 spec_ValMake.bits7 (fun HT_ HW_ => ?_)
    generalize wc.drew = w74 at BK184 BK185 BK186 HB hHeld ⊢
    refine sqp HT_ 0 32 ?_
    refine sqp HT_ 2 34 ?_
    refine sqp HT_ 4 36 ?_
    refine sqp HT_ 7 39 ?_
    refine sqw HT_ HW_ 1 33 hHeld ?_
    refine sqw HT_ HW_ 3 35 hHeld ?_
    refine sqw HT_ HW_ 5 37 hHeld ?_
    refine sqp HT_ 6 38 ?_
    refine sqw HT_ HW_ 8 40 hHeld ?_
    refine sqo HT_ 9 41 (fun K hK => ?_)
    refine sqG Try.func102 #[.int .i64 (wrap64 (a1_1 - a0_0)), .int .i64 a1_0] ?_
    with_reducible refine (spec_l1Mod.calls (wrap64 (a1_1 - a0_0)) a1_0 t204 _ A49.out).mono ?_
    rintro e w' ⟨rfl, ⟨nd, rfl⟩⟩
    refine ⟨_, rfl, ?_⟩
    refine hK.out _ _ sqz (fun hHeld => ?_)
    clear hK K
    refine sqnm ?_
    refine sqp HT_ 10 42 ?_
    refine sqp HT_ 11 5 ?_
    refine done_ (done_of HT_.out (by kernel_rfl)) ?_
    try go_wp2
    (try (rw [drewN_self w74]; generalize hq_ : World.drewN w74 _ = w74; replace BK184 := sqq BK184 hq_; replace BK185 := sqq BK185 hq_; replace BK186 := sqq BK186 hq_; replace HB := sqr HB hq_; clear hq_; obtain ⟨hqz7_0, hqz7_1, hqf7_0, hqf7_1⟩ := sqc2 BK184; obtain ⟨hqz8_0, hqz8_1, hqf8_0, hqf8_1⟩ := sqc2 BK185; obtain ⟨hqz9_0, hqz9_1, hqz9_2, hqz9_3, hqf9_0, hqf9_1, hqf9_2, hqf9_3⟩ := sqc4 BK186))
    replace BK184 := sqdr BK184
    replace BK185 := sqdr BK185
    replace BK186 := sqdr BK186
    replace HB := sqdB HB
    refine sqst 12 (fun w' => w'.cell? ⟨gb184, 0, none⟩ = some (.int .i64 a0_0) ∧ w'.cell? ⟨gb184, 1, none⟩ = some (.int .i64 a0_1) ∧ w'.cell? ⟨gb185, 0, none⟩ = some (.int .i64 a1_0) ∧ w'.cell? ⟨gb185, 1, none⟩ = some (.int .i64 a1_1)) sqz (fun hHeld => ?_); refine with_tabW spec_ValMake.tab8 spec_ValMake.bits8 (fun HT_ HW_ => ?_)
    generalize w74.drew = w75 at BK184 BK185 BK186 HB hHeld ⊢
    refine sqp HT_ 0 43 ?_
    refine sqp HT_ 2 45 ?_
    refine sqp HT_ 4 47 ?_
    refine sqp HT_ 7 50 ?_
    refine sqw HT_ HW_ 1 44 hHeld ?_
    refine sqw HT_ HW_ 3 46 hHeld ?_
    refine sqw HT_ HW_ 5 48 hHeld ?_
    refine sqp HT_ 6 49 ?_
    refine sqw HT_ HW_ 8 51 hHeld ?_
    refine sqo HT_ 9 52 (fun K hK => ?_)
    refine sqG Try.func102 #[.int .i64 (wrap64 (a0_1 - a1_1)), .int .i64 a1_0] ?_
    with_reducible refine (spec_l1Mod.calls (wrap64 (a0_1 - a1_1)) a1_0 t205 _ A50.out).mono ?_
    rintro e w' ⟨rfl, ⟨nd, rfl⟩⟩
    refine ⟨_, rfl, ?_⟩
    refine hK.out _ _ sqz (fun hHeld => ?_)
    clear hK K
    refine sqnm ?_
    refine sqp HT_ 10 53 ?_
    refine sqp HT_ 11 6 ?_
    refine done_ (done_of HT_.out (by kernel_rfl)) ?_
    obtain ⟨_, _, _, _⟩ := sqc2 BK185
    obtain ⟨_, _⟩ := sqN1 NB186_184
    obtain ⟨_, _, _, _, _, _, _, _⟩ := sqc4 BK186
    try go_wp2
    refine bodyPost_ret (results_cell_row rfl _ _ gb186 30 #[.int .i64 (wrap64 (a0_0 + t204)), .int .i64 (wrap64 (a0_1 - t205)), .int .i64 a1_0, .int .i64 a1_1] (0, 0) _ rfl (sqP BK186) Try.underlying30 rfl (by kernel_rfl)) rfl ?_
    exact sqe HB
   have c61b0 : ((wrap64 (a0_0 + t204)) == (wrap64 (a0_1 - t205))) = true := beq_iff_eq.mpr c61
   have c61b1 : ((wrap64 (a0_0 + t204)) != (wrap64 (a0_1 - t205))) = false := bne_eq_false_iff_eq.mpr c61
   clear c61
   replace H := sqbi H
   obtain ⟨⟨t210, t211, t212, t213⟩, A62, H⟩ := H
   try dsimp only at H
   simp only [Option.some.injEq, Prod.mk.injEq] at H
   obtain ⟨rfl, rfl, rfl, rfl⟩ := H
   obtain ⟨_, _, _, _⟩ := sqN2 NB185_184 NB185_186
   obtain ⟨_, _, _, _⟩ := sqc2 BK185
   try go_wp2
   replace BK184 := sqdr BK184
   replace BK185 := sqdr BK185
   replace BK186 := sqdr BK186
   replace HB := sqdB HB
   refine sqst 12 (fun w' => w'.cell? ⟨gb184, 0, none⟩ = some (.int .i64 a0_0) ∧ w'.cell? ⟨gb184, 1, none⟩ = some (.int .i64 a0_1) ∧ w'.cell? ⟨gb185, 0, none⟩ = some (.int .i64 a1_0) ∧ w'.cell? ⟨gb185, 1, none⟩ = some (.int .i64 a1_1)) sqz (fun hHeld => ?_); refine with_tabW spec_ValMake.tab7 spec_ValMake.bits7 (fun HT_ HW_ => ?_)
   generalize wc.drew = w66 at BK184 BK185 BK186 HB hHeld ⊢
   refine sqp HT_ 0 32 ?_
   refine sqp HT_ 2 34 ?_
   refine sqp HT_ 4 36 ?_
   refine sqp HT_ 7 39 ?_
   refine sqw HT_ HW_ 1 33 hHeld ?_
   refine sqw HT_ HW_ 3 35 hHeld ?_
   refine sqw HT_ HW_ 5 37 hHeld ?_
   refine sqp HT_ 6 38 ?_
   refine sqw HT_ HW_ 8 40 hHeld ?_
   refine sqo HT_ 9 41 (fun K hK => ?_)
   refine sqG Try.func102 #[.int .i64 (wrap64 (a1_1 - a0_0)), .int .i64 a1_0] ?_
   with_reducible refine (spec_l1Mod.calls (wrap64 (a1_1 - a0_0)) a1_0 t204 _ A49.out).mono ?_
   rintro e w' ⟨rfl, ⟨nd, rfl⟩⟩
   refine ⟨_, rfl, ?_⟩
   refine hK.out _ _ sqz (fun hHeld => ?_)
   clear hK K
   refine sqnm ?_
   refine sqp HT_ 10 42 ?_
   refine sqp HT_ 11 5 ?_
   refine done_ (done_of HT_.out (by kernel_rfl)) ?_
   try go_wp2
   (try (rw [drewN_self w66]; generalize hq_ : World.drewN w66 _ = w66; replace BK184 := sqq BK184 hq_; replace BK185 := sqq BK185 hq_; replace BK186 := sqq BK186 hq_; replace HB := sqr HB hq_; clear hq_; obtain ⟨hqz4_0, hqz4_1, hqf4_0, hqf4_1⟩ := sqc2 BK184; obtain ⟨hqz5_0, hqz5_1, hqf5_0, hqf5_1⟩ := sqc2 BK185; obtain ⟨hqz6_0, hqz6_1, hqz6_2, hqz6_3, hqf6_0, hqf6_1, hqf6_2, hqf6_3⟩ := sqc4 BK186))
   replace BK184 := sqdr BK184
   replace BK185 := sqdr BK185
   replace BK186 := sqdr BK186
   replace HB := sqdB HB
   refine sqst 12 (fun w' => w'.cell? ⟨gb184, 0, none⟩ = some (.int .i64 a0_0) ∧ w'.cell? ⟨gb184, 1, none⟩ = some (.int .i64 a0_1) ∧ w'.cell? ⟨gb185, 0, none⟩ = some (.int .i64 a1_0) ∧ w'.cell? ⟨gb185, 1, none⟩ = some (.int .i64 a1_1)) sqz (fun hHeld => ?_); refine with_tabW spec_ValMake.tab8 spec_ValMake.bits8 (fun HT_ HW_ => ?_)
   generalize w66.drew = w67 at BK184 BK185 BK186 HB hHeld ⊢
   refine sqp HT_ 0 43 ?_
   refine sqp HT_ 2 45 ?_
   refine sqp HT_ 4 47 ?_
   refine sqp HT_ 7 50 ?_
   refine sqw HT_ HW_ 1 44 hHeld ?_
   refine sqw HT_ HW_ 3 46 hHeld ?_
   refine sqw HT_ HW_ 5 48 hHeld ?_
   refine sqp HT_ 6 49 ?_
   refine sqw HT_ HW_ 8 51 hHeld ?_
   refine sqo HT_ 9 52 (fun K hK => ?_)
   refine sqG Try.func102 #[.int .i64 (wrap64 (a0_1 - a1_1)), .int .i64 a1_0] ?_
   with_reducible refine (spec_l1Mod.calls (wrap64 (a0_1 - a1_1)) a1_0 t205 _ A50.out).mono ?_
   rintro e w' ⟨rfl, ⟨nd, rfl⟩⟩
   refine ⟨_, rfl, ?_⟩
   refine hK.out _ _ sqz (fun hHeld => ?_)
   clear hK K
   refine sqnm ?_
   refine sqp HT_ 10 53 ?_
   refine sqp HT_ 11 6 ?_
   refine done_ (done_of HT_.out (by kernel_rfl)) ?_
   try go_wp2_with (first | ((with_reducible refine gate_callee (f := 101) rfl ?_); refine sqL (some 62) Try.func101 #[.int .i64 (wrap64 (a0_0 + t204))] ?_; (with_reducible refine (spec_l10One.calls (wrap64 (a0_0 + t204)) t210 t211 t212 t213 _ A62.out).mono ?_); rintro e w68 ⟨rfl, hb⟩; refine ⟨_, rfl, ?_⟩; refine sqM3 BK184 BK185 BK186 hb ?_; clear BK184 BK185 BK186; intro BK184 BK185 BK186; replace HB := sqs HB hb; (try clear hb); obtain ⟨_, _⟩ := sqN1 NB186_184; obtain ⟨_, _, _, _, _, _, _, _⟩ := sqc4 BK186))
   refine bodyPost_ret (results_cell_row rfl _ _ gb186 30 #[.int .i64 t210, .int .i64 t211, .int .i64 t212, .int .i64 t213] (0, 0) _ rfl (sqP BK186) Try.underlying30 rfl (by kernel_rfl)) rfl ?_
   exact sqe HB

end Go.Proofs.Ytkekcenlleebeaa.PFnValLattice
