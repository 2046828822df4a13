/- Functions of the program as plain Lean functions, and that calls of them come to what these tell. Conditions: those in each law. -/
import Derived.Test.YtkekcenlleebeaaSq
import Derived.Test.YtkekcenlleebeaaDFnExactAbsIn
import Derived.Test.YtkekcenlleebeaaQFnExactAbsInx0
import Derived.Test.YtkekcenlleebeaaQFnExactAbsInx1
import Derived.Test.YtkekcenlleebeaaQFnExactAbsInx7
import Derived.Test.YtkekcenlleebeaaQFnExactAbsInx8
import Derived.Test.YtkekcenlleebeaaQFnExactAbsInx9
namespace Go.Proofs.Ytkekcenlleebeaa.PFnExactAbsIn
open Go.RowKit Go.Proofs.Ytkekcenlleebeaa.Sq Go.Proofs.YtkekcenlleebeaaW.PrintWords Go.Proofs.YtkekcenlleebeaaW.PrintLast Go.Proofs.YtkekcenlleebeaaW.PrintMore
attribute [local go_sem] max2_int min2_int max_two min_two max_three min_three max_four min_four   -- for this text's walks alone
set_option linter.unusedVariables false
set_option linter.unusedSimpArgs false

attribute [local go_sem high] eqA24
/-! ### spec_ValMake: function 17 -/
def spec_ValMake.T1 : Bool × List (List Nat × List Nat) := (true, [([], []), ([0], [0]), ([1], [1]), ([2, 1], [2]), ([3], [3]), ([4, 3, 3], [3, 4]), ([5, 3], [3, 5]), ([3, 6], [3, 6]), ([7, 5], [7]), ([8], [8]), ([8, 8], [8]), ([9, 10, 8], [8, 9, 10]), ([8, 11], [8, 11])])
def spec_ValMake.B1 : List Nat := [0, 1, 3, 7, 15, 31, 63, 127, 255, 511, 511, 2047, 4095]
theorem spec_ValMake.tab1 : rtab .any (opsOf Try.f17 1) = spec_ValMake.T1 := by kernel_rfl
theorem spec_ValMake.bits1 : waitsOk spec_ValMake.T1.2 spec_ValMake.B1 = true := by kernel_rfl
def spec_ValMake.T7 : Bool × List (List Nat × List Nat) := (true, [([], []), ([0], [0]), ([], []), ([2], [2]), ([], []), ([4], [4]), ([3, 5], [3, 5]), ([], []), ([7], [7]), ([6, 8], [6, 8]), ([1, 9], [1, 9]), ([10, 9, 0, 1, 2, 3, 4, 5, 6, 7, 8, 9, 10], [10])])
def spec_ValMake.B7 : List Nat := [0, 1, 0, 4, 0, 16, 60, 0, 128, 508, 1023, 2047]
theorem spec_ValMake.tab7 : rtab .any (opsOf Try.f17 7) = spec_ValMake.T7 := by kernel_rfl
theorem spec_ValMake.bits7 : waitsOk spec_ValMake.T7.2 spec_ValMake.B7 = true := by kernel_rfl
def spec_ValMake.T8 : Bool × List (List Nat × List Nat) := (true, [([], []), ([0], [0]), ([], []), ([2], [2]), ([], []), ([4], [4]), ([3, 5], [3, 5]), ([], []), ([7], [7]), ([6, 8], [6, 8]), ([1, 9], [1, 9]), ([10, 9, 0, 1, 2, 3, 4, 5, 6, 7, 8, 9, 10], [10])])
def spec_ValMake.B8 : List Nat := [0, 1, 0, 4, 0, 16, 60, 0, 128, 508, 1023, 2047]
theorem spec_ValMake.tab8 : rtab .any (opsOf Try.f17 8) = spec_ValMake.T8 := by kernel_rfl
theorem spec_ValMake.bits8 : waitsOk spec_ValMake.T8.2 spec_ValMake.B8 = true := by kernel_rfl
set_option maxHeartbeats 8000000 in
set_option maxRecDepth 100000 in
theorem spec_ValMake.calls (k : Nat) (a0_0 : Int) (a0_1 : Int) (a1_0 : Int) (a1_1 : Int) (r1 : Int) (r2 : Int) (r3 : Int) (r4 : Int) (w : World) (h : spec_ValMake.f k a0_0 a0_1 a1_0 a1_1 = some (r1, r2, r3, r4)) :
  Calls Try.prog 17 #[.agg #[.int .i64 a0_0, .int .i64 a0_1], .agg #[.int .i64 a1_0, .int .i64 a1_1]] w fun e w' => e = .returned (.agg #[.int .i64 r1, .int .i64 r2, .int .i64 r3, .int .i64 r4]) ∧ Below w.heap.size w w' := by
 have hu24 := Try.underlying24
 have hu26 := Try.underlying26
 have hu30 := Try.underlying30
 have HB := Aside0.mk (Below.refl w.heap.size w)
 have H : ((spec_RangeOk.f a0_0 a0_1).bind fun t222 => (if t222 = true then ((spec_RestOk.f a1_0 a1_1).bind fun t223 => (if t223 = true then ((spec_l8None.f).bind fun bt224 => (spec_ValMake.j0 k (a0_0 == bt224.1 && (a0_1 == bt224.2)) a0_0 a0_1 a1_0 a1_1)) else (spec_ValMake.j0 k true a0_0 a0_1 a1_0 a1_1))) else (spec_ValMake.j0 k true a0_0 a0_1 a1_0 a1_1))) = some (r1, r2, r3, r4) := h
 clear h
 have HC3 := Aside0.mk H
 clear H
 go_enter Try.func17, Try.ntmps17
 go_upto_region 1 with (first | ((with_reducible refine gate_dst (N := 2) rfl ?_); refine sqx 2 #[.int .i64 a0_0, .int .i64 a0_1] 24 ?_; intro gb219 hg w4 hbox hb; have BK219 := Aside0.mk hbox; have GW219 := sqg HB hg; have GE219 := sqg HB hg; replace HB := sqs HB hb; clear hb hbox hg) | ((with_reducible refine gate_dst (N := 3) rfl ?_); refine sqx 3 #[.int .i64 a1_0, .int .i64 a1_1] 26 ?_; intro gb220 hg w5 hbox hb; have BK220 := Aside0.mk hbox; have GW220 := sqg HB hg; have GE220 := sqg HB hg; have NB219_220 := sqn BK219 hg; have NB220_219 := sqm BK219 hg; replace BK219 := sqb BK219 hb; replace HB := sqs HB hb; clear hb hbox hg) | ((with_reducible refine gate_dst (N := 4) rfl ?_); refine sqx 4 #[.int .i64 0, .int .i64 0, .int .i64 0, .int .i64 0] 30 ?_; intro gb221 hg w6 hbox hb; have BK221 := Aside0.mk hbox; have GW221 := sqg HB hg; have GE221 := sqg HB hg; have NB219_221 := sqn BK219 hg; have NB221_219 := sqm BK219 hg; have NB220_221 := sqn BK220 hg; have NB221_220 := sqm BK220 hg; refine sqM2 BK219 BK220 hb ?_; clear BK219 BK220; intro BK219 BK220; replace HB := sqs HB hb; clear hb hbox hg))
 (try simp only [Act.put, List.setIfInBounds_toArray, List.set_cons_zero, List.set_cons_succ])
 go_cut [19] (fun v19 wc => ∃ (kq : Nat) (x19_2 : Bool), v19 = .bool x19_2 ∧ Aside0 (spec_ValMake.j0 kq x19_2 a0_0 a0_1 a1_0 a1_1 = some (r1, r2, r3, r4)) ∧ Aside0 (kq ≤ k) ∧ Aside0 (wc.heap[gb219]? = some (.cells #[.int .i64 a0_0, .int .i64 a0_1] 24 (0, 0))) ∧ Aside0 (wc.heap[gb220]? = some (.cells #[.int .i64 a1_0, .int .i64 a1_1] 26 (0, 0))) ∧ Aside0 (wc.heap[gb221]? = some (.cells #[.int .i64 0, .int .i64 0, .int .i64 0, .int .i64 0] 30 (0, 0))) ∧ Aside0 (Below w.heap.size w wc))
 case first =>
  have H := HC3.out
  clear HC3
  replace H := sqbi H
  obtain ⟨t222, A7, H⟩ := H
  replace H : (if t222 = true then ((spec_RestOk.f a1_0 a1_1).bind fun t223 => (if t223 = true then ((spec_l8None.f).bind fun bt224 => (spec_ValMake.j0 k (a0_0 == bt224.1 && (a0_1 == bt224.2)) a0_0 a0_1 a1_0 a1_1)) else (spec_ValMake.j0 k true a0_0 a0_1 a1_0 a1_1))) else (spec_ValMake.j0 k true a0_0 a0_1 a1_0 a1_1)) = some (r1, r2, r3, r4) := H
  rcases sqI (t222 = true) with c8 | c8
  ·replace c8 := Bool.eq_false_iff.mpr c8
   subst c8
   have H1 : (spec_ValMake.j0 k true a0_0 a0_1 a1_0 a1_1) = some (r1, r2, r3, r4) := by rw [if_neg (show ¬ (false = true) by decide)] at H; exact H
   clear H
   have H := H1
   clear H1
   have H' := Aside0.mk H
   clear H
   try go_wp2
   replace BK219 := Aside0.mk (blk_drew BK219.out)
   replace BK220 := Aside0.mk (blk_drew BK220.out)
   replace BK221 := Aside0.mk (blk_drew BK221.out)
   replace HB := Aside0.mk (below_drew1 HB.out)
   refine start_ (n := 13) (S := fun w' => w'.cell? ⟨gb219, 0, none⟩ = some (.int .i64 a0_0) ∧ w'.cell? ⟨gb219, 1, none⟩ = some (.int .i64 a0_1)) (ds := []) #[false, false, false, false, false, false, false, false, false, false, false, false, false] (by kernel_rfl) rfl rfl sqz (fun hHeld => ?_); refine with_tabW spec_ValMake.tab1 spec_ValMake.bits1 (fun HT_ HW_ => ?_)
   generalize w6.drew = w19 at BK219 BK220 BK221 HB hHeld ⊢
   refine sqw HT_ HW_ 0 7 hHeld ?_
   refine sqo HT_ 1 8 (fun K hK => ?_)
   refine sqG Try.func45 #[.agg #[.int .i64 a0_0, .int .i64 a0_1]] ?_
   with_reducible refine (spec_RangeOk.calls a0_0 a0_1 false _ A7.out).mono ?_
   rintro e w20 ⟨rfl, hb⟩
   refine ⟨_, rfl, ?_⟩
   refine sqM3 BK219 BK220 BK221 hb ?_; clear BK219 BK220 BK221; intro BK219 BK220 BK221
   replace HB := sqs HB hb
   (try clear hb)
   refine hK.out _ _ sqz (fun hHeld => ?_)
   clear hK K
   refine sqnm ?_
   refine sqp HT_ 2 9 ?_
   refine sqp HT_ 3 10 ?_
   refine sqpu HT_ 4 11 ?_
   refine sqpu HT_ 5 12 ?_
   refine sqpu HT_ 6 13 ?_
   refine sqp HT_ 7 14 ?_
   refine sqp HT_ 8 15 ?_
   refine sqpu HT_ 9 16 ?_
   refine sqpu HT_ 10 17 ?_
   refine sqpu HT_ 11 18 ?_
   refine sqp HT_ 12 19 ?_
   refine done_ (done_of HT_.out (by kernel_rfl)) ?_
   try go_wp2
   go_meet
   case rel => exact ⟨_, (true), (by first | rfl | (simp; done) | (simp [*]; done)), H', ⟨by first | omega | exact Nat.le_refl _⟩, sqk BK219, sqk BK220, sqk BK221, sqh HB⟩
  subst c8
  have H1 : ((spec_RestOk.f a1_0 a1_1).bind fun t223 => (if t223 = true then ((spec_l8None.f).bind fun bt224 => (spec_ValMake.j0 k (a0_0 == bt224.1 && (a0_1 == bt224.2)) a0_0 a0_1 a1_0 a1_1)) else (spec_ValMake.j0 k true a0_0 a0_1 a1_0 a1_1))) = some (r1, r2, r3, r4) := by rw [if_pos rfl] at H; exact H
  clear H
  have H := H1
  clear H1
  replace H := sqbi H
  obtain ⟨t223, A9, H⟩ := H
  replace H : (if t223 = true then ((spec_l8None.f).bind fun bt224 => (spec_ValMake.j0 k (a0_0 == bt224.1 && (a0_1 == bt224.2)) a0_0 a0_1 a1_0 a1_1)) else (spec_ValMake.j0 k true a0_0 a0_1 a1_0 a1_1)) = some (r1, r2, r3, r4) := H
  rcases sqI (t223 = true) with c10 | c10
  ·replace c10 := Bool.eq_false_iff.mpr c10
   subst c10
   have H1 : (spec_ValMake.j0 k true a0_0 a0_1 a1_0 a1_1) = some (r1, r2, r3, r4) := by rw [if_neg (show ¬ (false = true) by decide)] at H; exact H
   clear H
   have H := H1
   clear H1
   have H' := Aside0.mk H
   clear H
   try go_wp2
   replace BK219 := Aside0.mk (blk_drew BK219.out)
   replace BK220 := Aside0.mk (blk_drew BK220.out)
   replace BK221 := Aside0.mk (blk_drew BK221.out)
   replace HB := Aside0.mk (below_drew1 HB.out)
   refine start_ (n := 13) (S := fun w' => w'.cell? ⟨gb219, 0, none⟩ = some (.int .i64 a0_0) ∧ w'.cell? ⟨gb219, 1, none⟩ = some (.int .i64 a0_1) ∧ w'.cell? ⟨gb220, 0, none⟩ = some (.int .i64 a1_0) ∧ w'.cell? ⟨gb220, 1, none⟩ = some (.int .i64 a1_1)) (ds := []) #[false, false, false, false, false, false, false, false, false, false, false, false, false] (by kernel_rfl) rfl rfl sqz (fun hHeld => ?_); refine with_tabW spec_ValMake.tab1 spec_ValMake.bits1 (fun HT_ HW_ => ?_)
   generalize w6.drew = w16 at BK219 BK220 BK221 HB hHeld ⊢
   refine sqw HT_ HW_ 0 7 hHeld ?_
   refine sqo HT_ 1 8 (fun K hK => ?_)
   refine sqG Try.func45 #[.agg #[.int .i64 a0_0, .int .i64 a0_1]] ?_
   with_reducible refine (spec_RangeOk.calls a0_0 a0_1 true _ A7.out).mono ?_
   rintro e w17 ⟨rfl, hb⟩
   refine ⟨_, rfl, ?_⟩
   refine sqM3 BK219 BK220 BK221 hb ?_; clear BK219 BK220 BK221; intro BK219 BK220 BK221
   replace HB := sqs HB hb
   (try clear hb)
   refine hK.out _ _ sqz (fun hHeld => ?_)
   clear hK K
   refine sqnm ?_
   refine sqp HT_ 2 9 ?_
   refine sqp HT_ 3 10 ?_
   refine sqw HT_ HW_ 4 11 hHeld ?_
   refine sqo HT_ 5 12 (fun K hK => ?_)
   refine sqG Try.func66 #[.agg #[.int .i64 a1_0, .int .i64 a1_1]] ?_
   with_reducible refine (spec_RestOk.calls a1_0 a1_1 false _ A9.out).mono ?_
   rintro e w18 ⟨rfl, hb⟩
   refine ⟨_, rfl, ?_⟩
   refine sqM3 BK219 BK220 BK221 hb ?_; clear BK219 BK220 BK221; intro BK219 BK220 BK221
   replace HB := sqs HB hb
   (try clear hb)
   refine hK.out _ _ sqz (fun hHeld => ?_)
   clear hK K
   refine sqnm ?_
   refine sqp HT_ 6 13 ?_
   refine sqp HT_ 7 14 ?_
   refine sqp HT_ 8 15 ?_
   refine sqpu HT_ 9 16 ?_
   refine sqpu HT_ 10 17 ?_
   refine sqpu HT_ 11 18 ?_
   refine sqp HT_ 12 19 ?_
   refine done_ (done_of HT_.out (by kernel_rfl)) ?_
   try go_wp2
   go_meet
   case rel => exact ⟨_, (true), (by first | rfl | (simp; done) | (simp [*]; done)), H', ⟨by first | omega | exact Nat.le_refl _⟩, sqk BK219, sqk BK220, sqk BK221, sqh HB⟩
  subst c10
  have H1 : ((spec_l8None.f).bind fun bt224 => (spec_ValMake.j0 k (a0_0 == bt224.1 && (a0_1 == bt224.2)) a0_0 a0_1 a1_0 a1_1)) = some (r1, r2, r3, r4) := by rw [if_pos rfl] at H; exact H
  clear H
  have H := H1
  clear H1
  replace H := sqbi H
  obtain ⟨⟨t224, t225⟩, A11, H⟩ := H
  replace H : (spec_ValMake.j0 k (a0_0 == t224 && (a0_1 == t225)) a0_0 a0_1 a1_0 a1_1) = some (r1, r2, r3, r4) := H
  have H' := Aside0.mk H
  clear H
  try go_wp2
  replace BK219 := Aside0.mk (blk_drew BK219.out)
  replace BK220 := Aside0.mk (blk_drew BK220.out)
  replace BK221 := Aside0.mk (blk_drew BK221.out)
  replace HB := Aside0.mk (below_drew1 HB.out)
  refine start_ (n := 13) (S := fun w' => w'.cell? ⟨gb219, 0, none⟩ = some (.int .i64 a0_0) ∧ w'.cell? ⟨gb219, 1, none⟩ = some (.int .i64 a0_1) ∧ w'.cell? ⟨gb220, 0, none⟩ = some (.int .i64 a1_0) ∧ w'.cell? ⟨gb220, 1, none⟩ = some (.int .i64 a1_1)) (ds := []) #[false, false, false, false, false, false, false, false, false, false, false, false, false] (by kernel_rfl) rfl rfl sqz (fun hHeld => ?_); refine with_tabW spec_ValMake.tab1 spec_ValMake.bits1 (fun HT_ HW_ => ?_)
  generalize w6.drew = w12 at BK219 BK220 BK221 HB hHeld ⊢
  refine sqw HT_ HW_ 0 7 hHeld ?_
  refine sqo HT_ 1 8 (fun K hK => ?_)
  refine sqG Try.func45 #[.agg #[.int .i64 a0_0, .int .i64 a0_1]] ?_
  with_reducible refine (spec_RangeOk.calls a0_0 a0_1 true _ A7.out).mono ?_
  rintro e w13 ⟨rfl, hb⟩
  refine ⟨_, rfl, ?_⟩
  refine sqM3 BK219 BK220 BK221 hb ?_; clear BK219 BK220 BK221; intro BK219 BK220 BK221
  replace HB := sqs HB hb
  (try clear hb)
  refine hK.out _ _ sqz (fun hHeld => ?_)
  clear hK K
  refine sqnm ?_
  refine sqp HT_ 2 9 ?_
  refine sqp HT_ 3 10 ?_
  refine sqw HT_ HW_ 4 11 hHeld ?_
  refine sqo HT_ 5 12 (fun K hK => ?_)
  refine sqG Try.func66 #[.agg #[.int .i64 a1_0, .int .i64 a1_1]] ?_
  with_reducible refine (spec_RestOk.calls a1_0 a1_1 true _ A9.out).mono ?_
  rintro e w14 ⟨rfl, hb⟩
  refine ⟨_, rfl, ?_⟩
  refine sqM3 BK219 BK220 BK221 hb ?_; clear BK219 BK220 BK221; intro BK219 BK220 BK221
  replace HB := sqs HB hb
  (try clear hb)
  refine hK.out _ _ sqz (fun hHeld => ?_)
  clear hK K
  refine sqnm ?_
  refine sqp HT_ 6 13 ?_
  refine sqp HT_ 7 14 ?_
  refine sqp HT_ 8 15 ?_
  refine sqw HT_ HW_ 9 16 hHeld ?_
  refine sqo HT_ 10 17 (fun K hK => ?_)
  refine sqG Try.func99 #[] ?_
  with_reducible refine (spec_l8None.calls  t224 t225 _ A11.out).mono ?_
  rintro e w15 ⟨rfl, hb⟩
  refine ⟨_, rfl, ?_⟩
  refine sqM3 BK219 BK220 BK221 hb ?_; clear BK219 BK220 BK221; intro BK219 BK220 BK221
  replace HB := sqs HB hb
  (try clear hb)
  refine hK.out _ _ sqz (fun hHeld => ?_)
  clear hK K
  refine sqnm ?_
  refine sqp HT_ 11 18 ?_
  refine sqp HT_ 12 19 ?_
  refine done_ (done_of HT_.out (by kernel_rfl)) ?_
  try go_wp2
  go_meet
  case rel => exact ⟨_, ((a0_0 == t224 && (a0_1 == t225))), (by first | rfl | (simp; done) | (simp [*]; done)), H', ⟨by first | omega | exact Nat.le_refl _⟩, sqk BK219, sqk BK220, sqk BK221, sqh HB⟩
 case rest =>
  clear HC3
  obtain ⟨kq, x19_2, rfl, HA, HJ2, BK219, BK220, BK221, HB⟩ := hcut
  cases kq with
  | zero => exact absurd HA.out (by simp [spec_ValMake.j0])
  | succ kj2 =>
   have H := HA.out
   clear HA
   simp only [spec_ValMake.j0] at H
   by_cases c21 : x19_2 = true
   ·subst c21
    have H1 : ((spec_l10None.f).bind fun bt226 => (some (bt226.1, bt226.2.1, bt226.2.2.1, bt226.2.2.2))) = some (r1, r2, r3, r4) := by rw [if_pos rfl] at H; exact H
    clear H
    have H := H1
    clear H1
    replace H := sqbi H
    obtain ⟨⟨t226, t227, t228, t229⟩, A22, H⟩ := H
    replace H : (some (t226, t227, t228, t229)) = some (r1, r2, r3, r4) := H
    simp only [Option.some.injEq, Prod.mk.injEq] at H
    obtain ⟨rfl, rfl, rfl, rfl⟩ := H
    go_wp2_with (first | ((with_reducible refine gate_callee (f := 100) rfl ?_); refine sqL (some 20) Try.func100 #[] ?_; (with_reducible refine (spec_l10None.calls  t226 t227 t228 t229 _ A22.out).mono ?_); rintro e w23 ⟨rfl, hb⟩; refine ⟨_, rfl, ?_⟩; refine sqM3 BK219 BK220 BK221 hb ?_; clear BK219 BK220 BK221; intro BK219 BK220 BK221; replace HB := sqs HB hb; (try clear hb); have hnb24 := NB221_219.out; have hnc24 := NB219_221.out; have hnb25 := NB221_220.out; have hnc25 := NB220_221.out; obtain ⟨hcz26_0, hcz26_1, hcz26_2, hcz26_3, hfz26_0, hfz26_1, hfz26_2, hfz26_3⟩ := sqc4 BK221))
    refine bodyPost_ret (results_cell_row rfl _ _ gb221 30 #[.int .i64 t226, .int .i64 t227, .int .i64 t228, .int .i64 t229] (0, 0) _ rfl (by refine sqt ?_; refine blk_put (cs := #[.int .i64 t226, .int .i64 t227, .int .i64 t228, .int .i64 0]) ?_ 3 _ rfl; refine sqt ?_; refine blk_put (cs := #[.int .i64 t226, .int .i64 t227, .int .i64 0, .int .i64 0]) ?_ 2 _ rfl; refine sqt ?_; refine blk_put (cs := #[.int .i64 t226, .int .i64 0, .int .i64 0, .int .i64 0]) ?_ 1 _ rfl; refine sqt ?_; refine blk_put (cs := #[.int .i64 0, .int .i64 0, .int .i64 0, .int .i64 0]) ?_ 0 _ rfl; refine sqt ?_; exact BK221.out) Try.underlying30 rfl (by kernel_rfl)) rfl ?_
    exact sqe HB
   replace c21 := Bool.eq_false_iff.mpr c21
   subst c21
   have H1 : (if a1_0 = 0 then ((spec_RangeHas.f a0_0 a0_1 a1_1).bind fun t230 => (if t230 = true then ((spec_l10One.f a1_1).bind fun bt231 => (some (bt231.1, bt231.2.1, bt231.2.2.1, bt231.2.2.2))) else ((spec_l10None.f).bind fun bt235 => (some (bt235.1, bt235.2.1, bt235.2.2.1, bt235.2.2.2))))) else ((spec_l1Mod.f (wrap64 (a1_1 - a0_0)) a1_0).bind fun t239 => ((spec_l1Mod.f (wrap64 (a0_1 - a1_1)) a1_0).bind fun t240 => (if (wrap64 (a0_0 + t239)) > (wrap64 (a0_1 - t240)) then ((spec_l10None.f).bind fun bt241 => (some (bt241.1, bt241.2.1, bt241.2.2.1, bt241.2.2.2))) else (if (wrap64 (a0_0 + t239)) = (wrap64 (a0_1 - t240)) then ((spec_l10One.f (wrap64 (a0_0 + t239))).bind fun bt245 => (some (bt245.1, bt245.2.1, bt245.2.2.1, bt245.2.2.2))) else (some (wrap64 (a0_0 + t239), wrap64 (a0_1 - t240), a1_0, a1_1))))))) = some (r1, r2, r3, r4) := by rw [if_neg (show ¬ (false = true) by decide)] at H; exact H
   clear H
   have H := H1
   clear H1
   replace H := sqj H
   rcases H with ⟨c27, H⟩ | ⟨c27, H⟩
   ·have c27b0 : (a1_0 == 0) = true := beq_iff_eq.mpr c27
    have c27b1 : (a1_0 != 0) = false := bne_eq_false_iff_eq.mpr c27
    clear c27
    replace H := sqbi H
    obtain ⟨t230, A28, H⟩ := H
    replace H : (if t230 = true then ((spec_l10One.f a1_1).bind fun bt231 => (some (bt231.1, bt231.2.1, bt231.2.2.1, bt231.2.2.2))) else ((spec_l10None.f).bind fun bt235 => (some (bt235.1, bt235.2.1, bt235.2.2.1, bt235.2.2.2)))) = some (r1, r2, r3, r4) := H
    rcases sqI (t230 = true) with c29 | c29
    ·replace c29 := Bool.eq_false_iff.mpr c29
     subst c29
     have H1 : ((spec_l10None.f).bind fun bt235 => (some (bt235.1, bt235.2.1, bt235.2.2.1, bt235.2.2.2))) = some (r1, r2, r3, r4) := by rw [if_neg (show ¬ (false = true) by decide)] at H; exact H
     clear H
     have H := H1
     clear H1
     replace H := sqbi H
     obtain ⟨⟨t235, t236, t237, t238⟩, A40, H⟩ := H
     replace H : (some (t235, t236, t237, t238)) = some (r1, r2, r3, r4) := H
     simp only [Option.some.injEq, Prod.mk.injEq] at H
     obtain ⟨rfl, rfl, rfl, rfl⟩ := H
     have hnb41 := NB220_219.out
     have hnc41 := NB219_220.out
     have hnb42 := NB220_221.out
     have hnc42 := NB221_220.out
     obtain ⟨hcz43_0, hcz43_1, hfz43_0, hfz43_1⟩ := sqc2 BK220
     have hnb44 := NB219_221.out
     have hnc44 := NB221_219.out
     obtain ⟨hcz45_0, hcz45_1, hfz45_0, hfz45_1⟩ := sqc2 BK219
     go_wp2_with (first | ((with_reducible refine gate_callee (f := 22) rfl ?_); refine sqL (some 27) Try.func22 #[.agg #[.int .i64 a0_0, .int .i64 a0_1], .int .i64 a1_1] ?_; (with_reducible refine (spec_RangeHas.calls a0_0 a0_1 a1_1 false _ A28.out).mono ?_); rintro e w46 ⟨rfl, hb⟩; refine ⟨_, rfl, ?_⟩; refine sqM3 BK219 BK220 BK221 hb ?_; clear BK219 BK220 BK221; intro BK219 BK220 BK221; replace HB := sqs HB hb; (try clear hb)) | ((with_reducible refine gate_callee (f := 100) rfl ?_); refine sqL (some 31) Try.func100 #[] ?_; (with_reducible refine (spec_l10None.calls  t235 t236 t237 t238 _ A40.out).mono ?_); rintro e w47 ⟨rfl, hb⟩; refine ⟨_, rfl, ?_⟩; refine sqM3 BK219 BK220 BK221 hb ?_; clear BK219 BK220 BK221; intro BK219 BK220 BK221; replace HB := sqs HB hb; (try clear hb); obtain ⟨hcz48_0, hcz48_1, hcz48_2, hcz48_3, hfz48_0, hfz48_1, hfz48_2, hfz48_3⟩ := sqc4 BK221))
     refine bodyPost_ret (results_cell_row rfl _ _ gb221 30 #[.int .i64 t235, .int .i64 t236, .int .i64 t237, .int .i64 t238] (0, 0) _ rfl (by refine sqt ?_; refine blk_put (cs := #[.int .i64 t235, .int .i64 t236, .int .i64 t237, .int .i64 0]) ?_ 3 _ rfl; refine sqt ?_; refine blk_put (cs := #[.int .i64 t235, .int .i64 t236, .int .i64 0, .int .i64 0]) ?_ 2 _ rfl; refine sqt ?_; refine blk_put (cs := #[.int .i64 t235, .int .i64 0, .int .i64 0, .int .i64 0]) ?_ 1 _ rfl; refine sqt ?_; refine blk_put (cs := #[.int .i64 0, .int .i64 0, .int .i64 0, .int .i64 0]) ?_ 0 _ rfl; refine sqt ?_; exact BK221.out) Try.underlying30 rfl (by kernel_rfl)) rfl ?_
     exact sqe HB
    subst c29
    have H1 : ((spec_l10One.f a1_1).bind fun bt231 => (some (bt231.1, bt231.2.1, bt231.2.2.1, bt231.2.2.2))) = some (r1, r2, r3, r4) := by rw [if_pos rfl] at H; exact H
    clear H
    have H := H1
    clear H1
    replace H := sqbi H
    obtain ⟨⟨t231, t232, t233, t234⟩, A30, H⟩ := H
    replace H : (some (t231, t232, t233, t234)) = some (r1, r2, r3, r4) := H
    simp only [Option.some.injEq, Prod.mk.injEq] at H
    obtain ⟨rfl, rfl, rfl, rfl⟩ := H
    have hnb31 := NB220_219.out
    have hnc31 := NB219_220.out
    have hnb32 := NB220_221.out
    have hnc32 := NB221_220.out
    obtain ⟨hcz33_0, hcz33_1, hfz33_0, hfz33_1⟩ := sqc2 BK220
    have hnb34 := NB219_221.out
    have hnc34 := NB221_219.out
    obtain ⟨hcz35_0, hcz35_1, hfz35_0, hfz35_1⟩ := sqc2 BK219
    go_wp2_with (first | ((with_reducible refine gate_callee (f := 22) rfl ?_); refine sqL (some 27) Try.func22 #[.agg #[.int .i64 a0_0, .int .i64 a0_1], .int .i64 a1_1] ?_; (with_reducible refine (spec_RangeHas.calls a0_0 a0_1 a1_1 true _ A28.out).mono ?_); rintro e w36 ⟨rfl, hb⟩; refine ⟨_, rfl, ?_⟩; refine sqM3 BK219 BK220 BK221 hb ?_; clear BK219 BK220 BK221; intro BK219 BK220 BK221; replace HB := sqs HB hb; (try clear hb); obtain ⟨hcz37_0, hcz37_1, hfz37_0, hfz37_1⟩ := sqc2 BK220) | ((with_reducible refine gate_callee (f := 101) rfl ?_); refine sqL (some 30) Try.func101 #[.int .i64 a1_1] ?_; (with_reducible refine (spec_l10One.calls a1_1 t231 t232 t233 t234 _ A30.out).mono ?_); rintro e w38 ⟨rfl, hb⟩; refine ⟨_, rfl, ?_⟩; refine sqM3 BK219 BK220 BK221 hb ?_; clear BK219 BK220 BK221; intro BK219 BK220 BK221; replace HB := sqs HB hb; (try clear hb); obtain ⟨hcz39_0, hcz39_1, hcz39_2, hcz39_3, hfz39_0, hfz39_1, hfz39_2, hfz39_3⟩ := sqc4 BK221))
    refine bodyPost_ret (results_cell_row rfl _ _ gb221 30 #[.int .i64 t231, .int .i64 t232, .int .i64 t233, .int .i64 t234] (0, 0) _ rfl (by refine sqt ?_; refine blk_put (cs := #[.int .i64 t231, .int .i64 t232, .int .i64 t233, .int .i64 0]) ?_ 3 _ rfl; refine sqt ?_; refine blk_put (cs := #[.int .i64 t231, .int .i64 t232, .int .i64 0, .int .i64 0]) ?_ 2 _ rfl; refine sqt ?_; refine blk_put (cs := #[.int .i64 t231, .int .i64 0, .int .i64 0, .int .i64 0]) ?_ 1 _ rfl; refine sqt ?_; refine blk_put (cs := #[.int .i64 0, .int .i64 0, .int .i64 0, .int .i64 0]) ?_ 0 _ rfl; refine sqt ?_; exact BK221.out) Try.underlying30 rfl (by kernel_rfl)) rfl ?_
    exact sqe HB
   have c27b0 : (a1_0 == 0) = false := beq_eq_false_iff_ne.mpr c27
   have c27b1 : (a1_0 != 0) = true := bne_iff_ne.mpr c27
   replace H := sqbi H
   obtain ⟨t239, A49, H⟩ := H
   replace H : ((spec_l1Mod.f (wrap64 (a0_1 - a1_1)) a1_0).bind fun t240 => (if (wrap64 (a0_0 + t239)) > (wrap64 (a0_1 - t240)) then ((spec_l10None.f).bind fun bt241 => (some (bt241.1, bt241.2.1, bt241.2.2.1, bt241.2.2.2))) else (if (wrap64 (a0_0 + t239)) = (wrap64 (a0_1 - t240)) then ((spec_l10One.f (wrap64 (a0_0 + t239))).bind fun bt245 => (some (bt245.1, bt245.2.1, bt245.2.2.1, bt245.2.2.2))) else (some (wrap64 (a0_0 + t239), wrap64 (a0_1 - t240), a1_0, a1_1))))) = some (r1, r2, r3, r4) := H
   replace H := sqbi H
   obtain ⟨t240, A50, H⟩ := H
   replace H : (if (wrap64 (a0_0 + t239)) > (wrap64 (a0_1 - t240)) then ((spec_l10None.f).bind fun bt241 => (some (bt241.1, bt241.2.1, bt241.2.2.1, bt241.2.2.2))) else (if (wrap64 (a0_0 + t239)) = (wrap64 (a0_1 - t240)) then ((spec_l10One.f (wrap64 (a0_0 + t239))).bind fun bt245 => (some (bt245.1, bt245.2.1, bt245.2.2.1, bt245.2.2.2))) else (some (wrap64 (a0_0 + t239), wrap64 (a0_1 - t240), a1_0, a1_1)))) = some (r1, r2, r3, r4) := H
   replace H := sqj H
   rcases H with ⟨c51, H⟩ | ⟨c51, H⟩
   ·have c51b0 : decide ((wrap64 (a0_1 - t240)) < (wrap64 (a0_0 + t239))) = true := decide_eq_true c51
    clear c51
    replace H := sqbi H
    obtain ⟨⟨t241, t242, t243, t244⟩, A52, H⟩ := H
    replace H : (some (t241, t242, t243, t244)) = some (r1, r2, r3, r4) := H
    simp only [Option.some.injEq, Prod.mk.injEq] at H
    obtain ⟨rfl, rfl, rfl, rfl⟩ := H
    have hnb53 := NB220_219.out
    have hnc53 := NB219_220.out
    have hnb54 := NB220_221.out
    have hnc54 := NB221_220.out
    obtain ⟨hcz55_0, hcz55_1, hfz55_0, hfz55_1⟩ := sqc2 BK220
    try go_wp2
    replace BK219 := Aside0.mk (blk_drew BK219.out)
    replace BK220 := Aside0.mk (blk_drew BK220.out)
    replace BK221 := Aside0.mk (blk_drew BK221.out)
    replace HB := Aside0.mk (below_drew1 HB.out)
    refine start_ (n := 12) (S := fun w' => w'.cell? ⟨gb219, 0, none⟩ = some (.int .i64 a0_0) ∧ w'.cell? ⟨gb219, 1, none⟩ = some (.int .i64 a0_1) ∧ w'.cell? ⟨gb220, 0, none⟩ = some (.int .i64 a1_0) ∧ w'.cell? ⟨gb220, 1, none⟩ = some (.int .i64 a1_1)) (ds := []) #[false, false, false, false, false, false, false, false, false, false, false, false] (by kernel_rfl) rfl rfl sqz (fun hHeld => ?_); refine with_tabW spec_ValMake.tab7 spec_ValMake.bits7 (fun HT_ HW_ => ?_)
    generalize wc.drew = w56 at BK219 BK220 BK221 HB hHeld ⊢
    refine sqp HT_ 0 32 ?_
    refine sqp HT_ 2 34 ?_
    refine sqp HT_ 4 36 ?_
    refine sqp HT_ 7 39 ?_
    refine sqw HT_ HW_ 1 33 hHeld ?_
    refine sqw HT_ HW_ 3 35 hHeld ?_
    refine sqw HT_ HW_ 5 37 hHeld ?_
    refine sqp HT_ 6 38 ?_
    refine sqw HT_ HW_ 8 40 hHeld ?_
    refine sqo HT_ 9 41 (fun K hK => ?_)
    refine sqG Try.func102 #[.int .i64 (wrap64 (a1_1 - a0_0)), .int .i64 a1_0] ?_
    with_reducible refine (spec_l1Mod.calls (wrap64 (a1_1 - a0_0)) a1_0 t239 _ A49.out).mono ?_
    rintro e w' ⟨rfl, ⟨nd, rfl⟩⟩
    refine ⟨_, rfl, ?_⟩
    refine hK.out _ _ sqz (fun hHeld => ?_)
    clear hK K
    refine sqnm ?_
    refine sqp HT_ 10 42 ?_
    refine sqp HT_ 11 5 ?_
    refine done_ (done_of HT_.out (by kernel_rfl)) ?_
    try go_wp2
    (try (rw [drewN_self w56]; generalize hq_ : World.drewN w56 _ = w56; replace BK219 := sqq BK219 hq_; replace BK220 := sqq BK220 hq_; replace BK221 := sqq BK221 hq_; replace HB := sqr HB hq_; clear hq_; obtain ⟨hqz1_0, hqz1_1, hqf1_0, hqf1_1⟩ := sqc2 BK219; obtain ⟨hqz2_0, hqz2_1, hqf2_0, hqf2_1⟩ := sqc2 BK220; obtain ⟨hqz3_0, hqz3_1, hqz3_2, hqz3_3, hqf3_0, hqf3_1, hqf3_2, hqf3_3⟩ := sqc4 BK221))
    replace BK219 := Aside0.mk (blk_drew BK219.out)
    replace BK220 := Aside0.mk (blk_drew BK220.out)
    replace BK221 := Aside0.mk (blk_drew BK221.out)
    replace HB := Aside0.mk (below_drew1 HB.out)
    refine start_ (n := 12) (S := fun w' => w'.cell? ⟨gb219, 0, none⟩ = some (.int .i64 a0_0) ∧ w'.cell? ⟨gb219, 1, none⟩ = some (.int .i64 a0_1) ∧ w'.cell? ⟨gb220, 0, none⟩ = some (.int .i64 a1_0) ∧ w'.cell? ⟨gb220, 1, none⟩ = some (.int .i64 a1_1)) (ds := []) #[false, false, false, false, false, false, false, false, false, false, false, false] (by kernel_rfl) rfl rfl sqz (fun hHeld => ?_); refine with_tabW spec_ValMake.tab8 spec_ValMake.bits8 (fun HT_ HW_ => ?_)
    generalize w56.drew = w57 at BK219 BK220 BK221 HB hHeld ⊢
    refine sqp HT_ 0 43 ?_
    refine sqp HT_ 2 45 ?_
    refine sqp HT_ 4 47 ?_
    refine sqp HT_ 7 50 ?_
    refine sqw HT_ HW_ 1 44 hHeld ?_
    refine sqw HT_ HW_ 3 46 hHeld ?_
    refine sqw HT_ HW_ 5 48 hHeld ?_
    refine sqp HT_ 6 49 ?_
    refine sqw HT_ HW_ 8 51 hHeld ?_
    refine sqo HT_ 9 52 (fun K hK => ?_)
    refine sqG Try.func102 #[.int .i64 (wrap64 (a0_1 - a1_1)), .int .i64 a1_0] ?_
    with_reducible refine (spec_l1Mod.calls (wrap64 (a0_1 - a1_1)) a1_0 t240 _ A50.out).mono ?_
    rintro e w' ⟨rfl, ⟨nd, rfl⟩⟩
    refine ⟨_, rfl, ?_⟩
    refine hK.out _ _ sqz (fun hHeld => ?_)
    clear hK K
    refine sqnm ?_
    refine sqp HT_ 10 53 ?_
    refine sqp HT_ 11 6 ?_
    refine done_ (done_of HT_.out (by kernel_rfl)) ?_
    try go_wp2_with (first | ((with_reducible refine gate_callee (f := 100) rfl ?_); refine sqL (some 57) Try.func100 #[] ?_; (with_reducible refine (spec_l10None.calls  t241 t242 t243 t244 _ A52.out).mono ?_); rintro e w58 ⟨rfl, hb⟩; refine ⟨_, rfl, ?_⟩; refine sqM3 BK219 BK220 BK221 hb ?_; clear BK219 BK220 BK221; intro BK219 BK220 BK221; replace HB := sqs HB hb; (try clear hb); have hnb59 := NB221_219.out; have hnc59 := NB219_221.out; obtain ⟨hcz60_0, hcz60_1, hcz60_2, hcz60_3, hfz60_0, hfz60_1, hfz60_2, hfz60_3⟩ := sqc4 BK221))
    refine bodyPost_ret (results_cell_row rfl _ _ gb221 30 #[.int .i64 t241, .int .i64 t242, .int .i64 t243, .int .i64 t244] (0, 0) _ rfl (by refine sqt ?_; refine blk_put (cs := #[.int .i64 t241, .int .i64 t242, .int .i64 t243, .int .i64 0]) ?_ 3 _ rfl; refine sqt ?_; refine blk_put (cs := #[.int .i64 t241, .int .i64 t242, .int .i64 0, .int .i64 0]) ?_ 2 _ rfl; refine sqt ?_; refine blk_put (cs := #[.int .i64 t241, .int .i64 0, .int .i64 0, .int .i64 0]) ?_ 1 _ rfl; refine sqt ?_; refine blk_put (cs := #[.int .i64 0, .int .i64 0, .int .i64 0, .int .i64 0]) ?_ 0 _ rfl; refine sqt ?_; exact BK221.out) Try.underlying30 rfl (by kernel_rfl)) rfl ?_
    exact sqe HB
   have c51b0 : decide ((wrap64 (a0_1 - t240)) < (wrap64 (a0_0 + t239))) = false := decide_eq_false c51
   clear c51
   replace H := sqi H
   rcases H with ⟨c61, H⟩ | ⟨c61, H⟩
   ·have c61b0 : ((wrap64 (a0_0 + t239)) == (wrap64 (a0_1 - t240))) = false := beq_eq_false_iff_ne.mpr c61
    have c61b1 : ((wrap64 (a0_0 + t239)) != (wrap64 (a0_1 - t240))) = true := bne_iff_ne.mpr c61
    simp only [Option.some.injEq, Prod.mk.injEq] at H
    obtain ⟨rfl, rfl, rfl, rfl⟩ := H
    have hnb71 := NB220_219.out
    have hnc71 := NB219_220.out
    have hnb72 := NB220_221.out
    have hnc72 := NB221_220.out
    obtain ⟨hcz73_0, hcz73_1, hfz73_0, hfz73_1⟩ := sqc2 BK220
    try go_wp2
    replace BK219 := Aside0.mk (blk_drew BK219.out)
    replace BK220 := Aside0.mk (blk_drew BK220.out)
    replace BK221 := Aside0.mk (blk_drew BK221.out)
    replace HB := Aside0.mk (below_drew1 HB.out)
    refine start_ (n := 12) (S := fun w' => w'.cell? ⟨gb219, 0, none⟩ = some (.int .i64 a0_0) ∧ w'.cell? ⟨gb219, 1, none⟩ = some (.int .i64 a0_1) ∧ w'.cell? ⟨gb220, 0, none⟩ = some (.int .i64 a1_0) ∧ w'.cell? ⟨gb220, 1, none⟩ = some (.int .i64 a1_1)) (ds := []) #[false, false, false, false, false, false, false, false, false, false, false, false] (by kernel_rfl) rfl rfl sqz (fun hHeld => ?_); refine with_tabW spec_ValMake.tab7 spec_ValMake.bits7 (fun HT_ HW_ => ?_)
    generalize wc.drew = w74 at BK219 BK220 BK221 HB hHeld ⊢
    refine sqp HT_ 0 32 ?_
    refine sqp HT_ 2 34 ?_
    refine sqp HT_ 4 36 ?_
    refine sqp HT_ 7 39 ?_
    refine sqw HT_ HW_ 1 33 hHeld ?_
    refine sqw HT_ HW_ 3 35 hHeld ?_
    refine sqw HT_ HW_ 5 37 hHeld ?_
    refine sqp HT_ 6 38 ?_
    refine sqw HT_ HW_ 8 40 hHeld ?_
    refine sqo HT_ 9 41 (fun K hK => ?_)
    refine sqG Try.func102 #[.int .i64 (wrap64 (a1_1 - a0_0)), .int .i64 a1_0] ?_
    with_reducible refine (spec_l1Mod.calls (wrap64 (a1_1 - a0_0)) a1_0 t239 _ A49.out).mono ?_
    rintro e w' ⟨rfl, ⟨nd, rfl⟩⟩
    refine ⟨_, rfl, ?_⟩
    refine hK.out _ _ sqz (fun hHeld => ?_)
    clear hK K
    refine sqnm ?_
    refine sqp HT_ 10 42 ?_
    refine sqp HT_ 11 5 ?_
    refine done_ (done_of HT_.out (by kernel_rfl)) ?_
    try go_wp2
    (try (rw [drewN_self w74]; generalize hq_ : World.drewN w74 _ = w74; replace BK219 := sqq BK219 hq_; replace BK220 := sqq BK220 hq_; replace BK221 := sqq BK221 hq_; replace HB := sqr HB hq_; clear hq_; obtain ⟨hqz7_0, hqz7_1, hqf7_0, hqf7_1⟩ := sqc2 BK219; obtain ⟨hqz8_0, hqz8_1, hqf8_0, hqf8_1⟩ := sqc2 BK220; obtain ⟨hqz9_0, hqz9_1, hqz9_2, hqz9_3, hqf9_0, hqf9_1, hqf9_2, hqf9_3⟩ := sqc4 BK221))
    replace BK219 := Aside0.mk (blk_drew BK219.out)
    replace BK220 := Aside0.mk (blk_drew BK220.out)
    replace BK221 := Aside0.mk (blk_drew BK221.out)
    replace HB := Aside0.mk (below_drew1 HB.out)
    refine start_ (n := 12) (S := fun w' => w'.cell? ⟨gb219, 0, none⟩ = some (.int .i64 a0_0) ∧ w'.cell? ⟨gb219, 1, none⟩ = some (.int .i64 a0_1) ∧ w'.cell? ⟨gb220, 0, none⟩ = some (.int .i64 a1_0) ∧ w'.cell? ⟨gb220, 1, none⟩ = some (.int .i64 a1_1)) (ds := []) #[false, false, false, false, false, false, false, false, false, false, false, false] (by kernel_rfl) rfl rfl sqz (fun hHeld => ?_); refine with_tabW spec_ValMake.tab8 spec_ValMake.bits8 (fun HT_ HW_ => ?_)
    generalize w74.drew = w75 at BK219 BK220 BK221 HB hHeld ⊢
    refine sqp HT_ 0 43 ?_
    refine sqp HT_ 2 45 ?_
    refine sqp HT_ 4 47 ?_
    refine sqp HT_ 7 50 ?_
    refine sqw HT_ HW_ 1 44 hHeld ?_
    refine sqw HT_ HW_ 3 46 hHeld ?_
    refine sqw HT_ HW_ 5 48 hHeld ?_
    refine sqp HT_ 6 49 ?_
    refine sqw HT_ HW_ 8 51 hHeld ?_
    refine sqo HT_ 9 52 (fun K hK => ?_)
    refine sqG Try.func102 #[.int .i64 (wrap64 (a0_1 - a1_1)), .int .i64 a1_0] ?_
    with_reducible refine (spec_l1Mod.calls (wrap64 (a0_1 - a1_1)) a1_0 t240 _ A50.out).mono ?_
    rintro e w' ⟨rfl, ⟨nd, rfl⟩⟩
    refine ⟨_, rfl, ?_⟩
    refine hK.out _ _ sqz (fun hHeld => ?_)
    clear hK K
    refine sqnm ?_
    refine sqp HT_ 10 53 ?_
    refine sqp HT_ 11 6 ?_
    refine done_ (done_of HT_.out (by kernel_rfl)) ?_
    obtain ⟨hcz76_0, hcz76_1, hfz76_0, hfz76_1⟩ := sqc2 BK220
    have hnb77 := NB221_219.out
    have hnc77 := NB219_221.out
    obtain ⟨hcz78_0, hcz78_1, hcz78_2, hcz78_3, hfz78_0, hfz78_1, hfz78_2, hfz78_3⟩ := sqc4 BK221
    try go_wp2
    refine bodyPost_ret (results_cell_row rfl _ _ gb221 30 #[.int .i64 (wrap64 (a0_0 + t239)), .int .i64 (wrap64 (a0_1 - t240)), .int .i64 a1_0, .int .i64 a1_1] (0, 0) _ rfl (by refine sqt ?_; refine blk_put (cs := #[.int .i64 (wrap64 (a0_0 + t239)), .int .i64 (wrap64 (a0_1 - t240)), .int .i64 a1_0, .int .i64 0]) ?_ 3 _ rfl; refine sqt ?_; refine blk_put (cs := #[.int .i64 (wrap64 (a0_0 + t239)), .int .i64 (wrap64 (a0_1 - t240)), .int .i64 0, .int .i64 0]) ?_ 2 _ rfl; refine sqt ?_; refine blk_put (cs := #[.int .i64 (wrap64 (a0_0 + t239)), .int .i64 0, .int .i64 0, .int .i64 0]) ?_ 1 _ rfl; refine sqt ?_; refine blk_put (cs := #[.int .i64 0, .int .i64 0, .int .i64 0, .int .i64 0]) ?_ 0 _ rfl; refine sqt ?_; exact BK221.out) Try.underlying30 rfl (by kernel_rfl)) rfl ?_
    exact sqe HB
   have c61b0 : ((wrap64 (a0_0 + t239)) == (wrap64 (a0_1 - t240))) = true := beq_iff_eq.mpr c61
   have c61b1 : ((wrap64 (a0_0 + t239)) != (wrap64 (a0_1 - t240))) = false := bne_eq_false_iff_eq.mpr c61
   clear c61
   replace H := sqbi H
   obtain ⟨⟨t245, t246, t247, t248⟩, A62, H⟩ := H
   replace H : (some (t245, t246, t247, t248)) = some (r1, r2, r3, r4) := H
   simp only [Option.some.injEq, Prod.mk.injEq] at H
   obtain ⟨rfl, rfl, rfl, rfl⟩ := H
   have hnb63 := NB220_219.out
   have hnc63 := NB219_220.out
   have hnb64 := NB220_221.out
   have hnc64 := NB221_220.out
   obtain ⟨hcz65_0, hcz65_1, hfz65_0, hfz65_1⟩ := sqc2 BK220
   try go_wp2
   replace BK219 := Aside0.mk (blk_drew BK219.out)
   replace BK220 := Aside0.mk (blk_drew BK220.out)
   replace BK221 := Aside0.mk (blk_drew BK221.out)
   replace HB := Aside0.mk (below_drew1 HB.out)
   refine start_ (n := 12) (S := fun w' => w'.cell? ⟨gb219, 0, none⟩ = some (.int .i64 a0_0) ∧ w'.cell? ⟨gb219, 1, none⟩ = some (.int .i64 a0_1) ∧ w'.cell? ⟨gb220, 0, none⟩ = some (.int .i64 a1_0) ∧ w'.cell? ⟨gb220, 1, none⟩ = some (.int .i64 a1_1)) (ds := []) #[false, false, false, false, false, false, false, false, false, false, false, false] (by kernel_rfl) rfl rfl sqz (fun hHeld => ?_); refine with_tabW spec_ValMake.tab7 spec_ValMake.bits7 (fun HT_ HW_ => ?_)
   generalize wc.drew = w66 at BK219 BK220 BK221 HB hHeld ⊢
   refine sqp HT_ 0 32 ?_
   refine sqp HT_ 2 34 ?_
   refine sqp HT_ 4 36 ?_
   refine sqp HT_ 7 39 ?_
   refine sqw HT_ HW_ 1 33 hHeld ?_
   refine sqw HT_ HW_ 3 35 hHeld ?_
   refine sqw HT_ HW_ 5 37 hHeld ?_
   refine sqp HT_ 6 38 ?_
   refine sqw HT_ HW_ 8 40 hHeld ?_
   refine sqo HT_ 9 41 (fun K hK => ?_)
   refine sqG Try.func102 #[.int .i64 (wrap64 (a1_1 - a0_0)), .int .i64 a1_0] ?_
   with_reducible refine (spec_l1Mod.calls (wrap64 (a1_1 - a0_0)) a1_0 t239 _ A49.out).mono ?_
   rintro e w' ⟨rfl, ⟨nd, rfl⟩⟩
   refine ⟨_, rfl, ?_⟩
   refine hK.out _ _ sqz (fun hHeld => ?_)
   clear hK K
   refine sqnm ?_
   refine sqp HT_ 10 42 ?_
   refine sqp HT_ 11 5 ?_
   refine done_ (done_of HT_.out (by kernel_rfl)) ?_
   try go_wp2
   (try (rw [drewN_self w66]; generalize hq_ : World.drewN w66 _ = w66; replace BK219 := sqq BK219 hq_; replace BK220 := sqq BK220 hq_; replace BK221 := sqq BK221 hq_; replace HB := sqr HB hq_; clear hq_; obtain ⟨hqz4_0, hqz4_1, hqf4_0, hqf4_1⟩ := sqc2 BK219; obtain ⟨hqz5_0, hqz5_1, hqf5_0, hqf5_1⟩ := sqc2 BK220; obtain ⟨hqz6_0, hqz6_1, hqz6_2, hqz6_3, hqf6_0, hqf6_1, hqf6_2, hqf6_3⟩ := sqc4 BK221))
   replace BK219 := Aside0.mk (blk_drew BK219.out)
   replace BK220 := Aside0.mk (blk_drew BK220.out)
   replace BK221 := Aside0.mk (blk_drew BK221.out)
   replace HB := Aside0.mk (below_drew1 HB.out)
   refine start_ (n := 12) (S := fun w' => w'.cell? ⟨gb219, 0, none⟩ = some (.int .i64 a0_0) ∧ w'.cell? ⟨gb219, 1, none⟩ = some (.int .i64 a0_1) ∧ w'.cell? ⟨gb220, 0, none⟩ = some (.int .i64 a1_0) ∧ w'.cell? ⟨gb220, 1, none⟩ = some (.int .i64 a1_1)) (ds := []) #[false, false, false, false, false, false, false, false, false, false, false, false] (by kernel_rfl) rfl rfl sqz (fun hHeld => ?_); refine with_tabW spec_ValMake.tab8 spec_ValMake.bits8 (fun HT_ HW_ => ?_)
   generalize w66.drew = w67 at BK219 BK220 BK221 HB hHeld ⊢
   refine sqp HT_ 0 43 ?_
   refine sqp HT_ 2 45 ?_
   refine sqp HT_ 4 47 ?_
   refine sqp HT_ 7 50 ?_
   refine sqw HT_ HW_ 1 44 hHeld ?_
   refine sqw HT_ HW_ 3 46 hHeld ?_
   refine sqw HT_ HW_ 5 48 hHeld ?_
   refine sqp HT_ 6 49 ?_
   refine sqw HT_ HW_ 8 51 hHeld ?_
   refine sqo HT_ 9 52 (fun K hK => ?_)
   refine sqG Try.func102 #[.int .i64 (wrap64 (a0_1 - a1_1)), .int .i64 a1_0] ?_
   with_reducible refine (spec_l1Mod.calls (wrap64 (a0_1 - a1_1)) a1_0 t240 _ A50.out).mono ?_
   rintro e w' ⟨rfl, ⟨nd, rfl⟩⟩
   refine ⟨_, rfl, ?_⟩
   refine hK.out _ _ sqz (fun hHeld => ?_)
   clear hK K
   refine sqnm ?_
   refine sqp HT_ 10 53 ?_
   refine sqp HT_ 11 6 ?_
   refine done_ (done_of HT_.out (by kernel_rfl)) ?_
   try go_wp2_with (first | ((with_reducible refine gate_callee (f := 101) rfl ?_); refine sqL (some 62) Try.func101 #[.int .i64 (wrap64 (a0_0 + t239))] ?_; (with_reducible refine (spec_l10One.calls (wrap64 (a0_0 + t239)) t245 t246 t247 t248 _ A62.out).mono ?_); rintro e w68 ⟨rfl, hb⟩; refine ⟨_, rfl, ?_⟩; refine sqM3 BK219 BK220 BK221 hb ?_; clear BK219 BK220 BK221; intro BK219 BK220 BK221; replace HB := sqs HB hb; (try clear hb); have hnb69 := NB221_219.out; have hnc69 := NB219_221.out; obtain ⟨hcz70_0, hcz70_1, hcz70_2, hcz70_3, hfz70_0, hfz70_1, hfz70_2, hfz70_3⟩ := sqc4 BK221))
   refine bodyPost_ret (results_cell_row rfl _ _ gb221 30 #[.int .i64 t245, .int .i64 t246, .int .i64 t247, .int .i64 t248] (0, 0) _ rfl (by refine sqt ?_; refine blk_put (cs := #[.int .i64 t245, .int .i64 t246, .int .i64 t247, .int .i64 0]) ?_ 3 _ rfl; refine sqt ?_; refine blk_put (cs := #[.int .i64 t245, .int .i64 t246, .int .i64 0, .int .i64 0]) ?_ 2 _ rfl; refine sqt ?_; refine blk_put (cs := #[.int .i64 t245, .int .i64 0, .int .i64 0, .int .i64 0]) ?_ 1 _ rfl; refine sqt ?_; refine blk_put (cs := #[.int .i64 0, .int .i64 0, .int .i64 0, .int .i64 0]) ?_ 0 _ rfl; refine sqt ?_; exact BK221.out) Try.underlying30 rfl (by kernel_rfl)) rfl ?_
   exact sqe HB

end Go.Proofs.Ytkekcenlleebeaa.PFnExactAbsIn
