/- Functions of the program as plain Lean functions, and that calls of them come to what these tell. Conditions: those in each law. -/
import Derived.Test.YtnmgckdgmplddaaSq
import Derived.Test.YtnmgckdgmplddaaDFnExactAbsHas
import Derived.Test.YtnmgckdgmplddaaQFnExactAbsHasx0
import Derived.Test.YtnmgckdgmplddaaQFnExactAbsHasx2
import Derived.Test.YtnmgckdgmplddaaQFnExactAbsHasx3
import Derived.Test.YtnmgckdgmplddaaQFnExactAbsHasx4
import Derived.Test.YtnmgckdgmplddaaQFnExactAbsHasx5
namespace Go.Proofs.Ytnmgckdgmplddaa.PFnExactAbsHas
open Go.RowKit Go.Proofs.Ytnmgckdgmplddaa.Sq Go.Proofs.YtnmgckdgmplddaaW.PrintWords Go.Proofs.YtnmgckdgmplddaaW.PrintLast Go.Proofs.YtnmgckdgmplddaaW.PrintMore
attribute [local go_sem] max2_int min2_int max_two min_two max_three min_three max_four min_four   -- for this text's walks alone
set_option linter.unusedVariables false
set_option linter.unusedSimpArgs false

attribute [local go_sem high] eqA92
/-! ### spec_ValMake: function 71 -/
def spec_ValMake.T1 : Bool × List (List Nat × List Nat) := (true, [([], []), ([0], [0]), ([1], [1]), ([2, 1], [2]), ([3], [3]), ([4, 3, 3], [3, 4]), ([5, 3], [3, 5]), ([3, 6], [3, 6]), ([7, 5], [7]), ([8], [8]), ([8, 8], [8]), ([9, 10, 8], [8, 9, 10]), ([8, 11], [8, 11])])
def spec_ValMake.B1 : List Nat := [0, 1, 3, 7, 15, 31, 63, 127, 255, 511, 511, 2047, 4095]
theorem spec_ValMake.tab1 : rtab .any (opsOf Try.f71 1) = spec_ValMake.T1 := by kernel_rfl
theorem spec_ValMake.bits1 : waitsOk spec_ValMake.T1.2 spec_ValMake.B1 = true := by kernel_rfl
def spec_ValMake.T7 : Bool × List (List Nat × List Nat) := (true, [([], []), ([0], [0]), ([], []), ([2], [2]), ([], []), ([4], [4]), ([3, 5], [3, 5]), ([], []), ([7], [7]), ([6, 8], [6, 8]), ([1, 9], [1, 9]), ([10, 9, 0, 1, 2, 3, 4, 5, 6, 7, 8, 9, 10], [10])])
def spec_ValMake.B7 : List Nat := [0, 1, 0, 4, 0, 16, 60, 0, 128, 508, 1023, 2047]
theorem spec_ValMake.tab7 : rtab .any (opsOf Try.f71 7) = spec_ValMake.T7 := by kernel_rfl
theorem spec_ValMake.bits7 : waitsOk spec_ValMake.T7.2 spec_ValMake.B7 = true := by kernel_rfl
def spec_ValMake.T8 : Bool × List (List Nat × List Nat) := (true, [([], []), ([0], [0]), ([], []), ([2], [2]), ([], []), ([4], [4]), ([3, 5], [3, 5]), ([], []), ([7], [7]), ([6, 8], [6, 8]), ([1, 9], [1, 9]), ([10, 9, 0, 1, 2, 3, 4, 5, 6, 7, 8, 9, 10], [10])])
def spec_ValMake.B8 : List Nat := [0, 1, 0, 4, 0, 16, 60, 0, 128, 508, 1023, 2047]
theorem spec_ValMake.tab8 : rtab .any (opsOf Try.f71 8) = spec_ValMake.T8 := by kernel_rfl
theorem spec_ValMake.bits8 : waitsOk spec_ValMake.T8.2 spec_ValMake.B8 = true := by kernel_rfl
set_option maxHeartbeats 8000000 in
set_option maxRecDepth 100000 in
theorem spec_ValMake.calls (k : Nat) (a0_0 : Int) (a0_1 : Int) (a1_0 : Int) (a1_1 : Int) (r1 : Int) (r2 : Int) (r3 : Int) (r4 : Int) (w : World) (h : spec_ValMake.f k a0_0 a0_1 a1_0 a1_1 = some (r1, r2, r3, r4)) :
  Calls Try.prog 71 #[.agg #[.int .i64 a0_0, .int .i64 a0_1], .agg #[.int .i64 a1_0, .int .i64 a1_1]] w fun e w' => e = .returned (.agg #[.int .i64 r1, .int .i64 r2, .int .i64 r3, .int .i64 r4]) ∧ Below w.heap.size w w' := by
 have hu92 := Try.underlying92
 have hu96 := Try.underlying96
 have hu60 := Try.underlying60
 have HB := Aside0.mk (Below.refl w.heap.size w)
 have H := h
 unfold spec_ValMake.f at H
 clear h
 have HC3 := Aside0.mk H
 clear H
 go_enter Try.func71, Try.ntmps71
 go_upto_region 1 with (first | ((with_reducible refine gate_dst (N := 2) rfl ?_); refine sqx 2 #[.int .i64 a0_0, .int .i64 a0_1] 92 ?_; intro gb136 hg w4 hbox hb; have BK136 := Aside0.mk hbox; have GW136 := sqg HB hg; have GE136 := sqg HB hg; replace HB := sqs HB hb; clear hb hbox hg) | ((with_reducible refine gate_dst (N := 3) rfl ?_); refine sqx 3 #[.int .i64 a1_0, .int .i64 a1_1] 96 ?_; intro gb137 hg w5 hbox hb; have BK137 := Aside0.mk hbox; have GW137 := sqg HB hg; have GE137 := sqg HB hg; have NB136_137 := sqn BK136 hg; have NB137_136 := sqm BK136 hg; replace BK136 := sqb BK136 hb; replace HB := sqs HB hb; clear hb hbox hg) | ((with_reducible refine gate_dst (N := 4) rfl ?_); refine sqx 4 #[.int .i64 0, .int .i64 0, .int .i64 0, .int .i64 0] 60 ?_; intro gb138 hg w6 hbox hb; have BK138 := Aside0.mk hbox; have GW138 := sqg HB hg; have GE138 := sqg HB hg; have NB136_138 := sqn BK136 hg; have NB138_136 := sqm BK136 hg; have NB137_138 := sqn BK137 hg; have NB138_137 := sqm BK137 hg; refine sqM2 BK136 BK137 hb ?_; clear BK136 BK137; intro BK136 BK137; replace HB := sqs HB hb; clear hb hbox hg))
 (try simp only [Act.put, List.setIfInBounds_toArray, List.set_cons_zero, List.set_cons_succ])
 go_cut [19] (fun v19 wc => ∃ (kq : Nat) (x19_2 : Bool), v19 = .bool x19_2 ∧ Aside0 (spec_ValMake.j0 kq x19_2 a0_0 a0_1 a1_0 a1_1 = some (r1, r2, r3, r4)) ∧ Aside0 (kq ≤ k) ∧ Aside0 (wc.heap[gb136]? = some (.cells #[.int .i64 a0_0, .int .i64 a0_1] 92 (0, 0))) ∧ Aside0 (wc.heap[gb137]? = some (.cells #[.int .i64 a1_0, .int .i64 a1_1] 96 (0, 0))) ∧ Aside0 (wc.heap[gb138]? = some (.cells #[.int .i64 0, .int .i64 0, .int .i64 0, .int .i64 0] 60 (0, 0))) ∧ Aside0 (Below w.heap.size w wc))
 case first =>
  have H := HC3.out
  clear HC3
  replace H := Option.bind_eq_some_iff.mp H
  obtain ⟨t139, A70, H⟩ := H
  try dsimp only at H
  have A7 := Aside0.mk A70
  clear A70
  rcases sqI (t139 = true) with c8 | c8
  ·replace c8 := Bool.eq_false_iff.mpr c8
   subst c8
   have H1 : (spec_ValMake.j0 k true a0_0 a0_1 a1_0 a1_1) = some (r1, r2, r3, r4) := by rw [if_neg (show ¬ (false = true) by decide)] at H; exact H
   clear H
   have H := H1
   clear H1
   have H' := Aside0.mk H
   clear H
   try go_wp2
   replace BK136 := Aside0.mk (blk_drew BK136.out)
   replace BK137 := Aside0.mk (blk_drew BK137.out)
   replace BK138 := Aside0.mk (blk_drew BK138.out)
   replace HB := Aside0.mk (below_drew1 HB.out)
   refine start_ (n := 13) (S := fun w' => w'.cell? ⟨gb136, 0, none⟩ = some (.int .i64 a0_0) ∧ w'.cell? ⟨gb136, 1, none⟩ = some (.int .i64 a0_1)) (ds := []) #[false, false, false, false, false, false, false, false, false, false, false, false, false] (by kernel_rfl) rfl rfl sqz (fun hHeld => ?_); refine with_tabW spec_ValMake.tab1 spec_ValMake.bits1 (fun HT_ HW_ => ?_)
   generalize w6.drew = w19 at BK136 BK137 BK138 HB hHeld ⊢
   refine sqw HT_ HW_ 0 7 hHeld ?_
   refine sqo HT_ 1 8 (fun K hK => ?_)
   refine sqG Try.func69 #[.agg #[.int .i64 a0_0, .int .i64 a0_1]] ?_
   with_reducible refine (spec_RangeOk.calls a0_0 a0_1 false _ A7.out).mono ?_
   rintro e w20 ⟨rfl, hb⟩
   refine ⟨_, rfl, ?_⟩
   refine sqM3 BK136 BK137 BK138 hb ?_; clear BK136 BK137 BK138; intro BK136 BK137 BK138
   replace HB := sqs HB hb
   (try clear hb)
   refine hK.out _ _ sqz (fun hHeld => ?_)
   clear hK K
   refine sqnm ?_
   refine sqp HT_ 2 9 ?_
   refine sqp HT_ 3 10 ?_
   refine sqpu HT_ 4 11 ?_
   refine sqpu HT_ 5 12 ?_
   refine sqpu HT_ 6 13 ?_
   refine sqp HT_ 7 14 ?_
   refine sqp HT_ 8 15 ?_
   refine sqpu HT_ 9 16 ?_
   refine sqpu HT_ 10 17 ?_
   refine sqpu HT_ 11 18 ?_
   refine sqp HT_ 12 19 ?_
   refine done_ (done_of HT_.out (by kernel_rfl)) ?_
   try go_wp2
   go_meet
   case rel => exact ⟨_, (true), (by first | rfl | (simp; done) | (simp [*]; done)), H', ⟨by first | omega | exact Nat.le_refl _⟩, sqk BK136, sqk BK137, sqk BK138, sqh HB⟩
  subst c8
  have H1 : ((spec_RestOk.f a1_0 a1_1).bind fun t140 => (if t140 = true then ((spec_l8None.f).bind fun bt141 => (spec_ValMake.j0 k (a0_0 == bt141.1 && (a0_1 == bt141.2)) a0_0 a0_1 a1_0 a1_1)) else (spec_ValMake.j0 k true a0_0 a0_1 a1_0 a1_1))) = some (r1, r2, r3, r4) := by rw [if_pos rfl] at H; exact H
  clear H
  have H := H1
  clear H1
  replace H := Option.bind_eq_some_iff.mp H
  obtain ⟨t140, A90, H⟩ := H
  try dsimp only at H
  have A9 := Aside0.mk A90
  clear A90
  rcases sqI (t140 = true) with c10 | c10
  ·replace c10 := Bool.eq_false_iff.mpr c10
   subst c10
   have H1 : (spec_ValMake.j0 k true a0_0 a0_1 a1_0 a1_1) = some (r1, r2, r3, r4) := by rw [if_neg (show ¬ (false = true) by decide)] at H; exact H
   clear H
   have H := H1
   clear H1
   have H' := Aside0.mk H
   clear H
   try go_wp2
   replace BK136 := Aside0.mk (blk_drew BK136.out)
   replace BK137 := Aside0.mk (blk_drew BK137.out)
   replace BK138 := Aside0.mk (blk_drew BK138.out)
   replace HB := Aside0.mk (below_drew1 HB.out)
   refine start_ (n := 13) (S := fun w' => w'.cell? ⟨gb136, 0, none⟩ = some (.int .i64 a0_0) ∧ w'.cell? ⟨gb136, 1, none⟩ = some (.int .i64 a0_1) ∧ w'.cell? ⟨gb137, 0, none⟩ = some (.int .i64 a1_0) ∧ w'.cell? ⟨gb137, 1, none⟩ = some (.int .i64 a1_1)) (ds := []) #[false, false, false, false, false, false, false, false, false, false, false, false, false] (by kernel_rfl) rfl rfl sqz (fun hHeld => ?_); refine with_tabW spec_ValMake.tab1 spec_ValMake.bits1 (fun HT_ HW_ => ?_)
   generalize w6.drew = w16 at BK136 BK137 BK138 HB hHeld ⊢
   refine sqw HT_ HW_ 0 7 hHeld ?_
   refine sqo HT_ 1 8 (fun K hK => ?_)
   refine sqG Try.func69 #[.agg #[.int .i64 a0_0, .int .i64 a0_1]] ?_
   with_reducible refine (spec_RangeOk.calls a0_0 a0_1 true _ A7.out).mono ?_
   rintro e w17 ⟨rfl, hb⟩
   refine ⟨_, rfl, ?_⟩
   refine sqM3 BK136 BK137 BK138 hb ?_; clear BK136 BK137 BK138; intro BK136 BK137 BK138
   replace HB := sqs HB hb
   (try clear hb)
   refine hK.out _ _ sqz (fun hHeld => ?_)
   clear hK K
   refine sqnm ?_
   refine sqp HT_ 2 9 ?_
   refine sqp HT_ 3 10 ?_
   refine sqw HT_ HW_ 4 11 hHeld ?_
   refine sqo HT_ 5 12 (fun K hK => ?_)
   refine sqG Try.func70 #[.agg #[.int .i64 a1_0, .int .i64 a1_1]] ?_
   with_reducible refine (spec_RestOk.calls a1_0 a1_1 false _ A9.out).mono ?_
   rintro e w18 ⟨rfl, hb⟩
   refine ⟨_, rfl, ?_⟩
   refine sqM3 BK136 BK137 BK138 hb ?_; clear BK136 BK137 BK138; intro BK136 BK137 BK138
   replace HB := sqs HB hb
   (try clear hb)
   refine hK.out _ _ sqz (fun hHeld => ?_)
   clear hK K
   refine sqnm ?_
   refine sqp HT_ 6 13 ?_
   refine sqp HT_ 7 14 ?_
   refine sqp HT_ 8 15 ?_
   refine sqpu HT_ 9 16 ?_
   refine sqpu HT_ 10 17 ?_
   refine sqpu HT_ 11 18 ?_
   refine sqp HT_ 12 19 ?_
   refine done_ (done_of HT_.out (by kernel_rfl)) ?_
   try go_wp2
   go_meet
   case rel => exact ⟨_, (true), (by first | rfl | (simp; done) | (simp [*]; done)), H', ⟨by first | omega | exact Nat.le_refl _⟩, sqk BK136, sqk BK137, sqk BK138, sqh HB⟩
  subst c10
  have H1 : ((spec_l8None.f).bind fun bt141 => (spec_ValMake.j0 k (a0_0 == bt141.1 && (a0_1 == bt141.2)) a0_0 a0_1 a1_0 a1_1)) = some (r1, r2, r3, r4) := by rw [if_pos rfl] at H; exact H
  clear H
  have H := H1
  clear H1
  replace H := Option.bind_eq_some_iff.mp H
  obtain ⟨⟨t141, t142⟩, A110, H⟩ := H
  try dsimp only at H
  have A11 := Aside0.mk A110
  clear A110
  have H' := Aside0.mk H
  clear H
  try go_wp2
  replace BK136 := Aside0.mk (blk_drew BK136.out)
  replace BK137 := Aside0.mk (blk_drew BK137.out)
  replace BK138 := Aside0.mk (blk_drew BK138.out)
  replace HB := Aside0.mk (below_drew1 HB.out)
  refine start_ (n := 13) (S := fun w' => w'.cell? ⟨gb136, 0, none⟩ = some (.int .i64 a0_0) ∧ w'.cell? ⟨gb136, 1, none⟩ = some (.int .i64 a0_1) ∧ w'.cell? ⟨gb137, 0, none⟩ = some (.int .i64 a1_0) ∧ w'.cell? ⟨gb137, 1, none⟩ = some (.int .i64 a1_1)) (ds := []) #[false, false, false, false, false, false, false, false, false, false, false, false, false] (by kernel_rfl) rfl rfl sqz (fun hHeld => ?_); refine with_tabW spec_ValMake.tab1 spec_ValMake.bits1 (fun HT_ HW_ => ?_)
  generalize w6.drew = w12 at BK136 BK137 BK138 HB hHeld ⊢
  refine sqw HT_ HW_ 0 7 hHeld ?_
  refine sqo HT_ 1 8 (fun K hK => ?_)
  refine sqG Try.func69 #[.agg #[.int .i64 a0_0, .int .i64 a0_1]] ?_
  with_reducible refine (spec_RangeOk.calls a0_0 a0_1 true _ A7.out).mono ?_
  rintro e w13 ⟨rfl, hb⟩
  refine ⟨_, rfl, ?_⟩
  refine sqM3 BK136 BK137 BK138 hb ?_; clear BK136 BK137 BK138; intro BK136 BK137 BK138
  replace HB := sqs HB hb
  (try clear hb)
  refine hK.out _ _ sqz (fun hHeld => ?_)
  clear hK K
  refine sqnm ?_
  refine sqp HT_ 2 9 ?_
  refine sqp HT_ 3 10 ?_
  refine sqw HT_ HW_ 4 11 hHeld ?_
  refine sqo HT_ 5 12 (fun K hK => ?_)
  refine sqG Try.func70 #[.agg #[.int .i64 a1_0, .int .i64 a1_1]] ?_
  with_reducible refine (spec_RestOk.calls a1_0 a1_1 true _ A9.out).mono ?_
  rintro e w14 ⟨rfl, hb⟩
  refine ⟨_, rfl, ?_⟩
  refine sqM3 BK136 BK137 BK138 hb ?_; clear BK136 BK137 BK138; intro BK136 BK137 BK138
  replace HB := sqs HB hb
  (try clear hb)
  refine hK.out _ _ sqz (fun hHeld => ?_)
  clear hK K
  refine sqnm ?_
  refine sqp HT_ 6 13 ?_
  refine sqp HT_ 7 14 ?_
  refine sqp HT_ 8 15 ?_
  refine sqw HT_ HW_ 9 16 hHeld ?_
  refine sqo HT_ 10 17 (fun K hK => ?_)
  refine sqG Try.func78 #[] ?_
  with_reducible refine (spec_l8None.calls  t141 t142 _ A11.out).mono ?_
  rintro e w15 ⟨rfl, hb⟩
  refine ⟨_, rfl, ?_⟩
  refine sqM3 BK136 BK137 BK138 hb ?_; clear BK136 BK137 BK138; intro BK136 BK137 BK138
  replace HB := sqs HB hb
  (try clear hb)
  refine hK.out _ _ sqz (fun hHeld => ?_)
  clear hK K
  refine sqnm ?_
  refine sqp HT_ 11 18 ?_
  refine sqp HT_ 12 19 ?_
  refine done_ (done_of HT_.out (by kernel_rfl)) ?_
  try go_wp2
  go_meet
  case rel => exact ⟨_, ((a0_0 == t141 && (a0_1 == t142))), (by first | rfl | (simp; done) | (simp [*]; done)), H', ⟨by first | omega | exact Nat.le_refl _⟩, sqk BK136, sqk BK137, sqk BK138, sqh HB⟩
 case rest =>
  clear HC3
  obtain ⟨kq, x19_2, rfl, HA, HJ2, BK136, BK137, BK138, HB⟩ := hcut
  cases kq with
  | zero => exact absurd HA.out (by simp [spec_ValMake.j0])
  | succ kj2 =>
   have H := HA.out
   clear HA
   simp only [spec_ValMake.j0] at H
   by_cases c21 : x19_2 = true
   ·subst c21
    have H1 : ((spec_l10None.f).bind fun bt143 => (some (bt143.1, bt143.2.1, bt143.2.2.1, bt143.2.2.2))) = some (r1, r2, r3, r4) := by rw [if_pos rfl] at H; exact H
    clear H
    have H := H1
    clear H1
    replace H := Option.bind_eq_some_iff.mp H
    obtain ⟨⟨t143, t144, t145, t146⟩, A220, H⟩ := H
    try dsimp only at H
    have A22 := Aside0.mk A220
    clear A220
    simp only [Option.some.injEq, Prod.mk.injEq] at H
    obtain ⟨rfl, rfl, rfl, rfl⟩ := H
    go_wp2_with (first | ((with_reducible refine gate_callee (f := 45) rfl ?_); refine sqL (some 20) Try.func45 #[] ?_; (with_reducible refine (spec_l10None.calls  t143 t144 t145 t146 _ A22.out).mono ?_); rintro e w23 ⟨rfl, hb⟩; refine ⟨_, rfl, ?_⟩; refine sqM3 BK136 BK137 BK138 hb ?_; clear BK136 BK137 BK138; intro BK136 BK137 BK138; replace HB := sqs HB hb; (try clear hb); have hnb24 := NB138_136.out; have hnc24 := NB136_138.out; have hnb25 := NB138_137.out; have hnc25 := NB137_138.out; obtain ⟨hcz26_0, hcz26_1, hcz26_2, hcz26_3, hfz26_0, hfz26_1, hfz26_2, hfz26_3⟩ := sqc4 BK138))
    refine bodyPost_ret (results_cell_row rfl _ _ gb138 60 #[.int .i64 t143, .int .i64 t144, .int .i64 t145, .int .i64 t146] (0, 0) _ rfl (by refine sqt ?_; refine blk_put (cs := #[.int .i64 t143, .int .i64 t144, .int .i64 t145, .int .i64 0]) ?_ 3 _ rfl; refine sqt ?_; refine blk_put (cs := #[.int .i64 t143, .int .i64 t144, .int .i64 0, .int .i64 0]) ?_ 2 _ rfl; refine sqt ?_; refine blk_put (cs := #[.int .i64 t143, .int .i64 0, .int .i64 0, .int .i64 0]) ?_ 1 _ rfl; refine sqt ?_; refine blk_put (cs := #[.int .i64 0, .int .i64 0, .int .i64 0, .int .i64 0]) ?_ 0 _ rfl; refine sqt ?_; exact BK138.out) Try.underlying60 rfl (by kernel_rfl)) rfl ?_
    exact sqe HB
   replace c21 := Bool.eq_false_iff.mpr c21
   subst c21
   have H1 : (if a1_0 = 0 then ((spec_RangeHas.f a0_0 a0_1 a1_1).bind fun t147 => (if t147 = true then ((spec_l10One.f a1_1).bind fun bt148 => (some (bt148.1, bt148.2.1, bt148.2.2.1, bt148.2.2.2))) else ((spec_l10None.f).bind fun bt152 => (some (bt152.1, bt152.2.1, bt152.2.2.1, bt152.2.2.2))))) else ((spec_l1Mod.f (wrap64 (a1_1 - a0_0)) a1_0).bind fun t156 => ((spec_l1Mod.f (wrap64 (a0_1 - a1_1)) a1_0).bind fun t157 => (if (wrap64 (a0_0 + t156)) > (wrap64 (a0_1 - t157)) then ((spec_l10None.f).bind fun bt158 => (some (bt158.1, bt158.2.1, bt158.2.2.1, bt158.2.2.2))) else (if (wrap64 (a0_0 + t156)) = (wrap64 (a0_1 - t157)) then ((spec_l10One.f (wrap64 (a0_0 + t156))).bind fun bt162 => (some (bt162.1, bt162.2.1, bt162.2.2.1, bt162.2.2.2))) else (some (wrap64 (a0_0 + t156), wrap64 (a0_1 - t157), a1_0, a1_1))))))) = some (r1, r2, r3, r4) := by rw [if_neg (show ¬ (false = true) by decide)] at H; exact H
   clear H
   have H := H1
   clear H1
   replace H := sqj H
   rcases H with ⟨c27, H⟩ | ⟨c27, H⟩
   ·have c27b0 : (a1_0 == 0) = true := beq_iff_eq.mpr c27
    have c27b1 : (a1_0 != 0) = false := bne_eq_false_iff_eq.mpr c27
    clear c27
    replace H := Option.bind_eq_some_iff.mp H
    obtain ⟨t147, A280, H⟩ := H
    try dsimp only at H
    have A28 := Aside0.mk A280
    clear A280
    rcases sqI (t147 = true) with c29 | c29
    ·replace c29 := Bool.eq_false_iff.mpr c29
     subst c29
     have H1 : ((spec_l10None.f).bind fun bt152 => (some (bt152.1, bt152.2.1, bt152.2.2.1, bt152.2.2.2))) = some (r1, r2, r3, r4) := by rw [if_neg (show ¬ (false = true) by decide)] at H; exact H
     clear H
     have H := H1
     clear H1
     replace H := Option.bind_eq_some_iff.mp H
     obtain ⟨⟨t152, t153, t154, t155⟩, A400, H⟩ := H
     try dsimp only at H
     have A40 := Aside0.mk A400
     clear A400
     simp only [Option.some.injEq, Prod.mk.injEq] at H
     obtain ⟨rfl, rfl, rfl, rfl⟩ := H
     have hnb41 := NB137_136.out
     have hnc41 := NB136_137.out
     have hnb42 := NB137_138.out
     have hnc42 := NB138_137.out
     obtain ⟨hcz43_0, hcz43_1, hfz43_0, hfz43_1⟩ := sqc2 BK137
     have hnb44 := NB136_138.out
     have hnc44 := NB138_136.out
     obtain ⟨hcz45_0, hcz45_1, hfz45_0, hfz45_1⟩ := sqc2 BK136
     go_wp2_with (first | ((with_reducible refine gate_callee (f := 46) rfl ?_); refine sqL (some 27) Try.func46 #[.agg #[.int .i64 a0_0, .int .i64 a0_1], .int .i64 a1_1] ?_; (with_reducible refine (spec_RangeHas.calls a0_0 a0_1 a1_1 false _ A28.out).mono ?_); rintro e w46 ⟨rfl, hb⟩; refine ⟨_, rfl, ?_⟩; refine sqM3 BK136 BK137 BK138 hb ?_; clear BK136 BK137 BK138; intro BK136 BK137 BK138; replace HB := sqs HB hb; (try clear hb)) | ((with_reducible refine gate_callee (f := 45) rfl ?_); refine sqL (some 31) Try.func45 #[] ?_; (with_reducible refine (spec_l10None.calls  t152 t153 t154 t155 _ A40.out).mono ?_); rintro e w47 ⟨rfl, hb⟩; refine ⟨_, rfl, ?_⟩; refine sqM3 BK136 BK137 BK138 hb ?_; clear BK136 BK137 BK138; intro BK136 BK137 BK138; replace HB := sqs HB hb; (try clear hb); obtain ⟨hcz48_0, hcz48_1, hcz48_2, hcz48_3, hfz48_0, hfz48_1, hfz48_2, hfz48_3⟩ := sqc4 BK138))
     refine bodyPost_ret (results_cell_row rfl _ _ gb138 60 #[.int .i64 t152, .int .i64 t153, .int .i64 t154, .int .i64 t155] (0, 0) _ rfl (by refine sqt ?_; refine blk_put (cs := #[.int .i64 t152, .int .i64 t153, .int .i64 t154, .int .i64 0]) ?_ 3 _ rfl; refine sqt ?_; refine blk_put (cs := #[.int .i64 t152, .int .i64 t153, .int .i64 0, .int .i64 0]) ?_ 2 _ rfl; refine sqt ?_; refine blk_put (cs := #[.int .i64 t152, .int .i64 0, .int .i64 0, .int .i64 0]) ?_ 1 _ rfl; refine sqt ?_; refine blk_put (cs := #[.int .i64 0, .int .i64 0, .int .i64 0, .int .i64 0]) ?_ 0 _ rfl; refine sqt ?_; exact BK138.out) Try.underlying60 rfl (by kernel_rfl)) rfl ?_
     exact sqe HB
    subst c29
    have H1 : ((spec_l10One.f a1_1).bind fun bt148 => (some (bt148.1, bt148.2.1, bt148.2.2.1, bt148.2.2.2))) = some (r1, r2, r3, r4) := by rw [if_pos rfl] at H; exact H
    clear H
    have H := H1
    clear H1
    replace H := Option.bind_eq_some_iff.mp H
    obtain ⟨⟨t148, t149, t150, t151⟩, A300, H⟩ := H
    try dsimp only at H
    have A30 := Aside0.mk A300
    clear A300
    simp only [Option.some.injEq, Prod.mk.injEq] at H
    obtain ⟨rfl, rfl, rfl, rfl⟩ := H
    have hnb31 := NB137_136.out
    have hnc31 := NB136_137.out
    have hnb32 := NB137_138.out
    have hnc32 := NB138_137.out
    obtain ⟨hcz33_0, hcz33_1, hfz33_0, hfz33_1⟩ := sqc2 BK137
    have hnb34 := NB136_138.out
    have hnc34 := NB138_136.out
    obtain ⟨hcz35_0, hcz35_1, hfz35_0, hfz35_1⟩ := sqc2 BK136
    go_wp2_with (first | ((with_reducible refine gate_callee (f := 46) rfl ?_); refine sqL (some 27) Try.func46 #[.agg #[.int .i64 a0_0, .int .i64 a0_1], .int .i64 a1_1] ?_; (with_reducible refine (spec_RangeHas.calls a0_0 a0_1 a1_1 true _ A28.out).mono ?_); rintro e w36 ⟨rfl, hb⟩; refine ⟨_, rfl, ?_⟩; refine sqM3 BK136 BK137 BK138 hb ?_; clear BK136 BK137 BK138; intro BK136 BK137 BK138; replace HB := sqs HB hb; (try clear hb); obtain ⟨hcz37_0, hcz37_1, hfz37_0, hfz37_1⟩ := sqc2 BK137) | ((with_reducible refine gate_callee (f := 79) rfl ?_); refine sqL (some 30) Try.func79 #[.int .i64 a1_1] ?_; (with_reducible refine (spec_l10One.calls a1_1 t148 t149 t150 t151 _ A30.out).mono ?_); rintro e w38 ⟨rfl, hb⟩; refine ⟨_, rfl, ?_⟩; refine sqM3 BK136 BK137 BK138 hb ?_; clear BK136 BK137 BK138; intro BK136 BK137 BK138; replace HB := sqs HB hb; (try clear hb); obtain ⟨hcz39_0, hcz39_1, hcz39_2, hcz39_3, hfz39_0, hfz39_1, hfz39_2, hfz39_3⟩ := sqc4 BK138))
    refine bodyPost_ret (results_cell_row rfl _ _ gb138 60 #[.int .i64 t148, .int .i64 t149, .int .i64 t150, .int .i64 t151] (0, 0) _ rfl (by refine sqt ?_; refine blk_put (cs := #[.int .i64 t148, .int .i64 t149, .int .i64 t150, .int .i64 0]) ?_ 3 _ rfl; refine sqt ?_; refine blk_put (cs := #[.int .i64 t148, .int .i64 t149, .int .i64 0, .int .i64 0]) ?_ 2 _ rfl; refine sqt ?_; refine blk_put (cs := #[.int .i64 t148, .int .i64 0, .int .i64 0, .int .i64 0]) ?_ 1 _ rfl; refine sqt ?_; refine blk_put (cs := #[.int .i64 0, .int .i64 0, .int .i64 0, .int .i64 0]) ?_ 0 _ rfl; refine sqt ?_; exact BK138.out) Try.underlying60 rfl (by kernel_rfl)) rfl ?_
    exact sqe HB
   have c27b0 : (a1_0 == 0) = false := beq_eq_false_iff_ne.mpr c27
   have c27b1 : (a1_0 != 0) = true := bne_iff_ne.mpr c27
   replace H := Option.bind_eq_some_iff.mp H
   obtain ⟨t156, A490, H⟩ := H
   try dsimp only at H
   have A49 := Aside0.mk A490
   clear A490
   replace H := Option.bind_eq_some_iff.mp H
   obtain ⟨t157, A500, H⟩ := H
   try dsimp only at H
   have A50 := Aside0.mk A500
   clear A500
   replace H := sqj H
   rcases H with ⟨c51, H⟩ | ⟨c51, H⟩
   ·have c51b0 : decide ((wrap64 (a0_1 - t157)) < (wrap64 (a0_0 + t156))) = true := decide_eq_true c51
    clear c51
    replace H := Option.bind_eq_some_iff.mp H
    obtain ⟨⟨t158, t159, t160, t161⟩, A520, H⟩ := H
    try dsimp only at H
    have A52 := Aside0.mk A520
    clear A520
    simp only [Option.some.injEq, Prod.mk.injEq] at H
    obtain ⟨rfl, rfl, rfl, rfl⟩ := H
    have hnb53 := NB137_136.out
    have hnc53 := NB136_137.out
    have hnb54 := NB137_138.out
    have hnc54 := NB138_137.out
    obtain ⟨hcz55_0, hcz55_1, hfz55_0, hfz55_1⟩ := sqc2 BK137
    try go_wp2
    replace BK136 := Aside0.mk (blk_drew BK136.out)
    replace BK137 := Aside0.mk (blk_drew BK137.out)
    replace BK138 := Aside0.mk (blk_drew BK138.out)
    replace HB := Aside0.mk (below_drew1 HB.out)
    refine start_ (n := 12) (S := fun w' => w'.cell? ⟨gb136, 0, none⟩ = some (.int .i64 a0_0) ∧ w'.cell? ⟨gb136, 1, none⟩ = some (.int .i64 a0_1) ∧ w'.cell? ⟨gb137, 0, none⟩ = some (.int .i64 a1_0) ∧ w'.cell? ⟨gb137, 1, none⟩ = some (.int .i64 a1_1)) (ds := []) #[false, false, false, false, false, false, false, false, false, false, false, false] (by kernel_rfl) rfl rfl sqz (fun hHeld => ?_); refine with_tabW spec_ValMake.tab7 spec_ValMake.bits7 (fun HT_ HW_ => ?_)
    generalize wc.drew = w56 at BK136 BK137 BK138 HB hHeld ⊢
    refine sqp HT_ 0 32 ?_
    refine sqp HT_ 2 34 ?_
    refine sqp HT_ 4 36 ?_
    refine sqp HT_ 7 39 ?_
    refine sqw HT_ HW_ 1 33 hHeld ?_
    refine sqw HT_ HW_ 3 35 hHeld ?_
    refine sqw HT_ HW_ 5 37 hHeld ?_
    refine sqp HT_ 6 38 ?_
    refine sqw HT_ HW_ 8 40 hHeld ?_
    refine sqo HT_ 9 41 (fun K hK => ?_)
    refine sqG Try.func72 #[.int .i64 (wrap64 (a1_1 - a0_0)), .int .i64 a1_0] ?_
    with_reducible refine (spec_l1Mod.calls (wrap64 (a1_1 - a0_0)) a1_0 t156 _ A49.out).mono ?_
    rintro e w' ⟨rfl, ⟨nd, rfl⟩⟩
    refine ⟨_, rfl, ?_⟩
    refine hK.out _ _ sqz (fun hHeld => ?_)
    clear hK K
    refine sqnm ?_
    refine sqp HT_ 10 42 ?_
    refine sqp HT_ 11 5 ?_
    refine done_ (done_of HT_.out (by kernel_rfl)) ?_
    try go_wp2
    (try (rw [drewN_self w56]; generalize hq_ : World.drewN w56 _ = w56; replace BK136 := sqq BK136 hq_; replace BK137 := sqq BK137 hq_; replace BK138 := sqq BK138 hq_; replace HB := sqr HB hq_; clear hq_; obtain ⟨hqz1_0, hqz1_1, hqf1_0, hqf1_1⟩ := sqc2 BK136; obtain ⟨hqz2_0, hqz2_1, hqf2_0, hqf2_1⟩ := sqc2 BK137; obtain ⟨hqz3_0, hqz3_1, hqz3_2, hqz3_3, hqf3_0, hqf3_1, hqf3_2, hqf3_3⟩ := sqc4 BK138))
    replace BK136 := Aside0.mk (blk_drew BK136.out)
    replace BK137 := Aside0.mk (blk_drew BK137.out)
    replace BK138 := Aside0.mk (blk_drew BK138.out)
    replace HB := Aside0.mk (below_drew1 HB.out)
    refine start_ (n := 12) (S := fun w' => w'.cell? ⟨gb136, 0, none⟩ = some (.int .i64 a0_0) ∧ w'.cell? ⟨gb136, 1, none⟩ = some (.int .i64 a0_1) ∧ w'.cell? ⟨gb137, 0, none⟩ = some (.int .i64 a1_0) ∧ w'.cell? ⟨gb137, 1, none⟩ = some (.int .i64 a1_1)) (ds := []) #[false, false, false, false, false, false, false, false, false, false, false, false] (by kernel_rfl) rfl rfl sqz (fun hHeld => ?_); refine with_tabW spec_ValMake.tab8 spec_ValMake.bits8 (fun HT_ HW_ => ?_)
    generalize w56.drew = w57 at BK136 BK137 BK138 HB hHeld ⊢
    refine sqp HT_ 0 43 ?_
    refine sqp HT_ 2 45 ?_
    refine sqp HT_ 4 47 ?_
    refine sqp HT_ 7 50 ?_
    refine sqw HT_ HW_ 1 44 hHeld ?_
    refine sqw HT_ HW_ 3 46 hHeld ?_
    refine sqw HT_ HW_ 5 48 hHeld ?_
    refine sqp HT_ 6 49 ?_
    refine sqw HT_ HW_ 8 51 hHeld ?_
    refine sqo HT_ 9 52 (fun K hK => ?_)
    refine sqG Try.func72 #[.int .i64 (wrap64 (a0_1 - a1_1)), .int .i64 a1_0] ?_
    with_reducible refine (spec_l1Mod.calls (wrap64 (a0_1 - a1_1)) a1_0 t157 _ A50.out).mono ?_
    rintro e w' ⟨rfl, ⟨nd, rfl⟩⟩
    refine ⟨_, rfl, ?_⟩
    refine hK.out _ _ sqz (fun hHeld => ?_)
    clear hK K
    refine sqnm ?_
    refine sqp HT_ 10 53 ?_
    refine sqp HT_ 11 6 ?_
    refine done_ (done_of HT_.out (by kernel_rfl)) ?_
    try go_wp2_with (first | ((with_reducible refine gate_callee (f := 45) rfl ?_); refine sqL (some 57) Try.func45 #[] ?_; (with_reducible refine (spec_l10None.calls  t158 t159 t160 t161 _ A52.out).mono ?_); rintro e w58 ⟨rfl, hb⟩; refine ⟨_, rfl, ?_⟩; refine sqM3 BK136 BK137 BK138 hb ?_; clear BK136 BK137 BK138; intro BK136 BK137 BK138; replace HB := sqs HB hb; (try clear hb); have hnb59 := NB138_136.out; have hnc59 := NB136_138.out; obtain ⟨hcz60_0, hcz60_1, hcz60_2, hcz60_3, hfz60_0, hfz60_1, hfz60_2, hfz60_3⟩ := sqc4 BK138))
    refine bodyPost_ret (results_cell_row rfl _ _ gb138 60 #[.int .i64 t158, .int .i64 t159, .int .i64 t160, .int .i64 t161] (0, 0) _ rfl (by refine sqt ?_; refine blk_put (cs := #[.int .i64 t158, .int .i64 t159, .int .i64 t160, .int .i64 0]) ?_ 3 _ rfl; refine sqt ?_; refine blk_put (cs := #[.int .i64 t158, .int .i64 t159, .int .i64 0, .int .i64 0]) ?_ 2 _ rfl; refine sqt ?_; refine blk_put (cs := #[.int .i64 t158, .int .i64 0, .int .i64 0, .int .i64 0]) ?_ 1 _ rfl; refine sqt ?_; refine blk_put (cs := #[.int .i64 0, .int .i64 0, .int .i64 0, .int .i64 0]) ?_ 0 _ rfl; refine sqt ?_; exact BK138.out) Try.underlying60 rfl (by kernel_rfl)) rfl ?_
    exact sqe HB
   have c51b0 : decide ((wrap64 (a0_1 - t157)) < (wrap64 (a0_0 + t156))) = false := decide_eq_false c51
   clear c51
   replace H := sqi H
   rcases H with ⟨c61, H⟩ | ⟨c61, H⟩
   ·have c61b0 : ((wrap64 (a0_0 + t156)) == (wrap64 (a0_1 - t157))) = false := beq_eq_false_iff_ne.mpr c61
    have c61b1 : ((wrap64 (a0_0 + t156)) != (wrap64 (a0_1 - t157))) = true := bne_iff_ne.mpr c61
    simp only [Option.some.injEq, Prod.mk.injEq] at H
    obtain ⟨rfl, rfl, rfl, rfl⟩ := H
    have hnb71 := NB137_136.out
    have hnc71 := NB136_137.out
    have hnb72 := NB137_138.out
    have hnc72 := NB138_137.out
    obtain ⟨hcz73_0, hcz73_1, hfz73_0, hfz73_1⟩ := sqc2 BK137
    try go_wp2
    replace BK136 := Aside0.mk (blk_drew BK136.out)
    replace BK137 := Aside0.mk (blk_drew BK137.out)
    replace BK138 := Aside0.mk (blk_drew BK138.out)
    replace HB := Aside0.mk (below_drew1 HB.out)
    refine start_ (n := 12) (S := fun w' => w'.cell? ⟨gb136, 0, none⟩ = some (.int .i64 a0_0) ∧ w'.cell? ⟨gb136, 1, none⟩ = some (.int .i64 a0_1) ∧ w'.cell? ⟨gb137, 0, none⟩ = some (.int .i64 a1_0) ∧ w'.cell? ⟨gb137, 1, none⟩ = some (.int .i64 a1_1)) (ds := []) #[false, false, false, false, false, false, false, false, false, false, false, false] (by kernel_rfl) rfl rfl sqz (fun hHeld => ?_); refine with_tabW spec_ValMake.tab7 spec_ValMake.bits7 (fun HT_ HW_ => ?_)
    generalize wc.drew = w74 at BK136 BK137 BK138 HB hHeld ⊢
    refine sqp HT_ 0 32 ?_
    refine sqp HT_ 2 34 ?_
    refine sqp HT_ 4 36 ?_
    refine sqp HT_ 7 39 ?_
    refine sqw HT_ HW_ 1 33 hHeld ?_
    refine sqw HT_ HW_ 3 35 hHeld ?_
    refine sqw HT_ HW_ 5 37 hHeld ?_
    refine sqp HT_ 6 38 ?_
    refine sqw HT_ HW_ 8 40 hHeld ?_
    refine sqo HT_ 9 41 (fun K hK => ?_)
    refine sqG Try.func72 #[.int .i64 (wrap64 (a1_1 - a0_0)), .int .i64 a1_0] ?_
    with_reducible refine (spec_l1Mod.calls (wrap64 (a1_1 - a0_0)) a1_0 t156 _ A49.out).mono ?_
    rintro e w' ⟨rfl, ⟨nd, rfl⟩⟩
    refine ⟨_, rfl, ?_⟩
    refine hK.out _ _ sqz (fun hHeld => ?_)
    clear hK K
    refine sqnm ?_
    refine sqp HT_ 10 42 ?_
    refine sqp HT_ 11 5 ?_
    refine done_ (done_of HT_.out (by kernel_rfl)) ?_
    try go_wp2
    (try (rw [drewN_self w74]; generalize hq_ : World.drewN w74 _ = w74; replace BK136 := sqq BK136 hq_; replace BK137 := sqq BK137 hq_; replace BK138 := sqq BK138 hq_; replace HB := sqr HB hq_; clear hq_; obtain ⟨hqz7_0, hqz7_1, hqf7_0, hqf7_1⟩ := sqc2 BK136; obtain ⟨hqz8_0, hqz8_1, hqf8_0, hqf8_1⟩ := sqc2 BK137; obtain ⟨hqz9_0, hqz9_1, hqz9_2, hqz9_3, hqf9_0, hqf9_1, hqf9_2, hqf9_3⟩ := sqc4 BK138))
    replace BK136 := Aside0.mk (blk_drew BK136.out)
    replace BK137 := Aside0.mk (blk_drew BK137.out)
    replace BK138 := Aside0.mk (blk_drew BK138.out)
    replace HB := Aside0.mk (below_drew1 HB.out)
    refine start_ (n := 12) (S := fun w' => w'.cell? ⟨gb136, 0, none⟩ = some (.int .i64 a0_0) ∧ w'.cell? ⟨gb136, 1, none⟩ = some (.int .i64 a0_1) ∧ w'.cell? ⟨gb137, 0, none⟩ = some (.int .i64 a1_0) ∧ w'.cell? ⟨gb137, 1, none⟩ = some (.int .i64 a1_1)) (ds := []) #[false, false, false, false, false, false, false, false, false, false, false, false] (by kernel_rfl) rfl rfl sqz (fun hHeld => ?_); refine with_tabW spec_ValMake.tab8 spec_ValMake.bits8 (fun HT_ HW_ => ?_)
    generalize w74.drew = w75 at BK136 BK137 BK138 HB hHeld ⊢
    refine sqp HT_ 0 43 ?_
    refine sqp HT_ 2 45 ?_
    refine sqp HT_ 4 47 ?_
    refine sqp HT_ 7 50 ?_
    refine sqw HT_ HW_ 1 44 hHeld ?_
    refine sqw HT_ HW_ 3 46 hHeld ?_
    refine sqw HT_ HW_ 5 48 hHeld ?_
    refine sqp HT_ 6 49 ?_
    refine sqw HT_ HW_ 8 51 hHeld ?_
    refine sqo HT_ 9 52 (fun K hK => ?_)
    refine sqG Try.func72 #[.int .i64 (wrap64 (a0_1 - a1_1)), .int .i64 a1_0] ?_
    with_reducible refine (spec_l1Mod.calls (wrap64 (a0_1 - a1_1)) a1_0 t157 _ A50.out).mono ?_
    rintro e w' ⟨rfl, ⟨nd, rfl⟩⟩
    refine ⟨_, rfl, ?_⟩
    refine hK.out _ _ sqz (fun hHeld => ?_)
    clear hK K
    refine sqnm ?_
    refine sqp HT_ 10 53 ?_
    refine sqp HT_ 11 6 ?_
    refine done_ (done_of HT_.out (by kernel_rfl)) ?_
    obtain ⟨hcz76_0, hcz76_1, hfz76_0, hfz76_1⟩ := sqc2 BK137
    have hnb77 := NB138_136.out
    have hnc77 := NB136_138.out
    obtain ⟨hcz78_0, hcz78_1, hcz78_2, hcz78_3, hfz78_0, hfz78_1, hfz78_2, hfz78_3⟩ := sqc4 BK138
    try go_wp2
    refine bodyPost_ret (results_cell_row rfl _ _ gb138 60 #[.int .i64 (wrap64 (a0_0 + t156)), .int .i64 (wrap64 (a0_1 - t157)), .int .i64 a1_0, .int .i64 a1_1] (0, 0) _ rfl (by refine sqt ?_; refine blk_put (cs := #[.int .i64 (wrap64 (a0_0 + t156)), .int .i64 (wrap64 (a0_1 - t157)), .int .i64 a1_0, .int .i64 0]) ?_ 3 _ rfl; refine sqt ?_; refine blk_put (cs := #[.int .i64 (wrap64 (a0_0 + t156)), .int .i64 (wrap64 (a0_1 - t157)), .int .i64 0, .int .i64 0]) ?_ 2 _ rfl; refine sqt ?_; refine blk_put (cs := #[.int .i64 (wrap64 (a0_0 + t156)), .int .i64 0, .int .i64 0, .int .i64 0]) ?_ 1 _ rfl; refine sqt ?_; refine blk_put (cs := #[.int .i64 0, .int .i64 0, .int .i64 0, .int .i64 0]) ?_ 0 _ rfl; refine sqt ?_; exact BK138.out) Try.underlying60 rfl (by kernel_rfl)) rfl ?_
    exact sqe HB
   have c61b0 : ((wrap64 (a0_0 + t156)) == (wrap64 (a0_1 - t157))) = true := beq_iff_eq.mpr c61
   have c61b1 : ((wrap64 (a0_0 + t156)) != (wrap64 (a0_1 - t157))) = false := bne_eq_false_iff_eq.mpr c61
   clear c61
   replace H := Option.bind_eq_some_iff.mp H
   obtain ⟨⟨t162, t163, t164, t165⟩, A620, H⟩ := H
   try dsimp only at H
   have A62 := Aside0.mk A620
   clear A620
   simp only [Option.some.injEq, Prod.mk.injEq] at H
   obtain ⟨rfl, rfl, rfl, rfl⟩ := H
   have hnb63 := NB137_136.out
   have hnc63 := NB136_137.out
   have hnb64 := NB137_138.out
   have hnc64 := NB138_137.out
   obtain ⟨hcz65_0, hcz65_1, hfz65_0, hfz65_1⟩ := sqc2 BK137
   try go_wp2
   replace BK136 := Aside0.mk (blk_drew BK136.out)
   replace BK137 := Aside0.mk (blk_drew BK137.out)
   replace BK138 := Aside0.mk (blk_drew BK138.out)
   replace HB := Aside0.mk (below_drew1 HB.out)
   refine start_ (n := 12) (S := fun w' => w'.cell? ⟨gb136, 0, none⟩ = some (.int .i64 a0_0) ∧ w'.cell? ⟨gb136, 1, none⟩ = some (.int .i64 a0_1) ∧ w'.cell? ⟨gb137, 0, none⟩ = some (.int .i64 a1_0) ∧ w'.cell? ⟨gb137, 1, none⟩ = some (.int .i64 a1_1)) (ds := []) #[false, false, false, false, false, false, false, false, false, false, false, false] (by kernel_rfl) rfl rfl sqz (fun hHeld => ?_); refine with_tabW spec_ValMake.tab7 spec_ValMake.bits7 (fun HT_ HW_ => ?_)
   generalize wc.drew = w66 at BK136 BK137 BK138 HB hHeld ⊢
   refine sqp HT_ 0 32 ?_
   refine sqp HT_ 2 34 ?_
   refine sqp HT_ 4 36 ?_
   refine sqp HT_ 7 39 ?_
   refine sqw HT_ HW_ 1 33 hHeld ?_
   refine sqw HT_ HW_ 3 35 hHeld ?_
   refine sqw HT_ HW_ 5 37 hHeld ?_
   refine sqp HT_ 6 38 ?_
   refine sqw HT_ HW_ 8 40 hHeld ?_
   refine sqo HT_ 9 41 (fun K hK => ?_)
   refine sqG Try.func72 #[.int .i64 (wrap64 (a1_1 - a0_0)), .int .i64 a1_0] ?_
   with_reducible refine (spec_l1Mod.calls (wrap64 (a1_1 - a0_0)) a1_0 t156 _ A49.out).mono ?_
   rintro e w' ⟨rfl, ⟨nd, rfl⟩⟩
   refine ⟨_, rfl, ?_⟩
   refine hK.out _ _ sqz (fun hHeld => ?_)
   clear hK K
   refine sqnm ?_
   refine sqp HT_ 10 42 ?_
   refine sqp HT_ 11 5 ?_
   refine done_ (done_of HT_.out (by kernel_rfl)) ?_
   try go_wp2
   (try (rw [drewN_self w66]; generalize hq_ : World.drewN w66 _ = w66; replace BK136 := sqq BK136 hq_; replace BK137 := sqq BK137 hq_; replace BK138 := sqq BK138 hq_; replace HB := sqr HB hq_; clear hq_; obtain ⟨hqz4_0, hqz4_1, hqf4_0, hqf4_1⟩ := sqc2 BK136; obtain ⟨hqz5_0, hqz5_1, hqf5_0, hqf5_1⟩ := sqc2 BK137; obtain ⟨hqz6_0, hqz6_1, hqz6_2, hqz6_3, hqf6_0, hqf6_1, hqf6_2, hqf6_3⟩ := sqc4 BK138))
   replace BK136 := Aside0.mk (blk_drew BK136.out)
   replace BK137 := Aside0.mk (blk_drew BK137.out)
   replace BK138 := Aside0.mk (blk_drew BK138.out)
   replace HB := Aside0.mk (below_drew1 HB.out)
   refine start_ (n := 12) (S := fun w' => w'.cell? ⟨gb136, 0, none⟩ = some (.int .i64 a0_0) ∧ w'.cell? ⟨gb136, 1, none⟩ = some (.int .i64 a0_1) ∧ w'.cell? ⟨gb137, 0, none⟩ = some (.int .i64 a1_0) ∧ w'.cell? ⟨gb137, 1, none⟩ = some (.int .i64 a1_1)) (ds := []) #[false, false, false, false, false, false, false, false, false, false, false, false] (by kernel_rfl) rfl rfl sqz (fun hHeld => ?_); refine with_tabW spec_ValMake.tab8 spec_ValMake.bits8 (fun HT_ HW_ => ?_)
   generalize w66.drew = w67 at BK136 BK137 BK138 HB hHeld ⊢
   refine sqp HT_ 0 43 ?_
   refine sqp HT_ 2 45 ?_
   refine sqp HT_ 4 47 ?_
   refine sqp HT_ 7 50 ?_
   refine sqw HT_ HW_ 1 44 hHeld ?_
   refine sqw HT_ HW_ 3 46 hHeld ?_
   refine sqw HT_ HW_ 5 48 hHeld ?_
   refine sqp HT_ 6 49 ?_
   refine sqw HT_ HW_ 8 51 hHeld ?_
   refine sqo HT_ 9 52 (fun K hK => ?_)
   refine sqG Try.func72 #[.int .i64 (wrap64 (a0_1 - a1_1)), .int .i64 a1_0] ?_
   with_reducible refine (spec_l1Mod.calls (wrap64 (a0_1 - a1_1)) a1_0 t157 _ A50.out).mono ?_
   rintro e w' ⟨rfl, ⟨nd, rfl⟩⟩
   refine ⟨_, rfl, ?_⟩
   refine hK.out _ _ sqz (fun hHeld => ?_)
   clear hK K
   refine sqnm ?_
   refine sqp HT_ 10 53 ?_
   refine sqp HT_ 11 6 ?_
   refine done_ (done_of HT_.out (by kernel_rfl)) ?_
   try go_wp2_with (first | ((with_reducible refine gate_callee (f := 79) rfl ?_); refine sqL (some 62) Try.func79 #[.int .i64 (wrap64 (a0_0 + t156))] ?_; (with_reducible refine (spec_l10One.calls (wrap64 (a0_0 + t156)) t162 t163 t164 t165 _ A62.out).mono ?_); rintro e w68 ⟨rfl, hb⟩; refine ⟨_, rfl, ?_⟩; refine sqM3 BK136 BK137 BK138 hb ?_; clear BK136 BK137 BK138; intro BK136 BK137 BK138; replace HB := sqs HB hb; (try clear hb); have hnb69 := NB138_136.out; have hnc69 := NB136_138.out; obtain ⟨hcz70_0, hcz70_1, hcz70_2, hcz70_3, hfz70_0, hfz70_1, hfz70_2, hfz70_3⟩ := sqc4 BK138))
   refine bodyPost_ret (results_cell_row rfl _ _ gb138 60 #[.int .i64 t162, .int .i64 t163, .int .i64 t164, .int .i64 t165] (0, 0) _ rfl (by refine sqt ?_; refine blk_put (cs := #[.int .i64 t162, .int .i64 t163, .int .i64 t164, .int .i64 0]) ?_ 3 _ rfl; refine sqt ?_; refine blk_put (cs := #[.int .i64 t162, .int .i64 t163, .int .i64 0, .int .i64 0]) ?_ 2 _ rfl; refine sqt ?_; refine blk_put (cs := #[.int .i64 t162, .int .i64 0, .int .i64 0, .int .i64 0]) ?_ 1 _ rfl; refine sqt ?_; refine blk_put (cs := #[.int .i64 0, .int .i64 0, .int .i64 0, .int .i64 0]) ?_ 0 _ rfl; refine sqt ?_; exact BK138.out) Try.underlying60 rfl (by kernel_rfl)) rfl ?_
   exact sqe HB

end Go.Proofs.Ytnmgckdgmplddaa.PFnExactAbsHas
