/- Functions of the program as plain Lean functions, and that calls of them come to what these tell. Conditions: those in each law. -/
import Derived.Test.YtnmgckdgmplddaaSq
import Derived.Test.YtnmgckdgmplddaaDFnExactAbsHas
import Derived.Test.YtnmgckdgmplddaaQFnExactAbsHasx0
import Derived.Test.YtnmgckdgmplddaaQFnExactAbsHasx1
import Derived.Test.YtnmgckdgmplddaaQFnExactAbsHasx3
import Derived.Test.YtnmgckdgmplddaaQFnExactAbsHasx7
namespace Go.Proofs.Ytnmgckdgmplddaa.PFnExactAbsHas
open Go.RowKit Go.Proofs.Ytnmgckdgmplddaa.Sq Go.Proofs.YtnmgckdgmplddaaW.PrintWords Go.Proofs.YtnmgckdgmplddaaW.PrintLast Go.Proofs.YtnmgckdgmplddaaW.PrintMore
attribute [local go_sem] max2_int min2_int max_two min_two max_three min_three max_four min_four   -- for this text's walks alone
set_option linter.unusedVariables false
set_option linter.unusedSimpArgs false

attribute [local go_sem high] eqA60
/-! ### spec_l12RefOk: function 41 -/
def spec_l12RefOk.T1 : Bool × List (List Nat × List Nat) := (true, [([], []), ([0], [0]), ([1], [1]), ([2], [2]), ([3, 2], [3]), ([4], [4]), ([5, 4], [4, 5]), ([6, 4], [4, 6]), ([7, 4], [4, 7]), ([4], [4]), ([9, 4], [4, 9]), ([4, 4], [4]), ([10, 11, 4], [4, 10, 11]), ([8, 12, 4], [4, 8, 12]), ([4, 13], [4, 13]), ([14, 11], [14]), ([15], [15]), ([16, 15], [15, 16]), ([17, 15], [15, 17]), ([18, 15, 15], [15, 18]), ([19], [19]), ([20, 19], [19, 20]), ([21, 19], [19, 21]), ([22, 19], [19, 22]), ([19, 23, 15], [15, 19, 23]), ([15, 24], [15, 24])])
def spec_l12RefOk.B1 : List Nat := [0, 1, 3, 7, 15, 31, 63, 127, 255, 31, 543, 31, 3615, 8191, 16383, 32767, 65535, 131071, 262143, 524287, 1048575, 2097151, 4194303, 8388607, 16777215, 33554431]
theorem spec_l12RefOk.tab1 : rtab .any (opsOf Try.f41 1) = spec_l12RefOk.T1 := by kernel_rfl
theorem spec_l12RefOk.bits1 : waitsOk spec_l12RefOk.T1.2 spec_l12RefOk.B1 = true := by kernel_rfl
def spec_l12RefOk.T6 : Bool × List (List Nat × List Nat) := (true, [([], []), ([0], [0]), ([], []), ([1, 2], [1, 2]), ([3], [3]), ([4], [4]), ([5], [5]), ([6], [6]), ([7, 6], [6, 7]), ([8, 6, 6], [6, 8]), ([9], [9]), ([10, 9], [9, 10]), ([9], [9]), ([12, 9], [9, 12]), ([11, 13, 9], [9, 11, 13]), ([14, 9], [9, 14]), ([9], [9]), ([16, 9], [9, 16]), ([9], [9]), ([17, 18, 9], [9, 17, 18]), ([19, 9], [9, 19]), ([15, 20, 9], [9, 15, 20]), ([9, 21, 6], [6, 9, 21]), ([6, 22], [6, 22])])
def spec_l12RefOk.B6 : List Nat := [0, 1, 0, 7, 15, 31, 63, 127, 255, 511, 1023, 2047, 1023, 5119, 16383, 32767, 1023, 66559, 1023, 459775, 984063, 2097151, 4194303, 8388607]
theorem spec_l12RefOk.tab6 : rtab .any (opsOf Try.f41 6) = spec_l12RefOk.T6 := by kernel_rfl
theorem spec_l12RefOk.bits6 : waitsOk spec_l12RefOk.T6.2 spec_l12RefOk.B6 = true := by kernel_rfl
set_option maxHeartbeats 8000000 in
set_option maxRecDepth 100000 in
theorem spec_l12RefOk.calls (k : Nat) (a0_0 : Bool) (A0_1 : Option Addr) (c0_1 : Nat) (l0_1 : List Int) (a0_2 : Int) (a0_3 : Int) (a0_4 : Int) (a0_5 : Int) (r : Bool) (w : World) (hr0_1 : Kd.C (Kd.int .i64) w A0_1 l0_1.length l0_1) (hc0_1 : l0_1.length ≤ c0_1) (h : spec_l12RefOk.f k a0_0 l0_1 a0_2 a0_3 a0_4 a0_5 = some r) :
  Calls Try.prog 41 #[.agg #[.bool a0_0, .slice A0_1 l0_1.length c0_1, .int .i64 a0_2, .int .i64 a0_3, .int .i64 a0_4, .int .i64 a0_5]] w fun e w' => e = .returned (.bool r) ∧ Below w.heap.size w w' := by
 have hu63 := Try.underlying63
 have hu60 := Try.underlying60
 have HR0_1 := Aside0.mk hr0_1
 have HC0_1 := Aside0.mk hc0_1
 clear hr0_1 hc0_1
 have HB := Aside0.mk (Below.refl w.heap.size w)
 have H := h
 unfold spec_l12RefOk.f at H
 clear h
 have HC2 := Aside0.mk H
 clear H
 go_enter Try.func41, Try.ntmps41
 go_upto_region 1 with (first | ((with_reducible refine gate_dst (N := 1) rfl ?_); (try (refine gate_guard (by rfl) ?_; dsimp only)); refine sqx 1 #[.bool a0_0, .slice A0_1 l0_1.length c0_1, .int .i64 a0_2, .int .i64 a0_3, .int .i64 a0_4, .int .i64 a0_5] 63 ?_; intro gb185 hg w3 hbox hb; have BK185 := Aside0.mk hbox; have GW185 := sqg HB hg; have GE185 := sqg HB hg; replace HB := sqs HB hb; clear hb hbox hg))
 (try simp only [Act.put, List.setIfInBounds_toArray, List.set_cons_zero, List.set_cons_succ])
 go_cut [29] (fun v29 wc => ∃ (kq : Nat) (x29_1 : Bool), v29 = .bool x29_1 ∧ Aside0 (spec_l12RefOk.j0 kq x29_1 a0_0 l0_1 a0_2 a0_3 a0_4 a0_5 = some r) ∧ Aside0 (kq ≤ k) ∧ Aside0 (wc.heap[gb185]? = some (.cells #[.bool a0_0, (.slice A0_1 l0_1.length c0_1), .int .i64 a0_2, .int .i64 a0_3, .int .i64 a0_4, .int .i64 a0_5] 63 (0, 0))) ∧ Aside0 (Below w.heap.size w wc))
 case first =>
  have H := HC2.out
  clear HC2
  replace H := Option.bind_eq_some_iff.mp H
  obtain ⟨t186, A40, H⟩ := H
  try dsimp only at H
  have A4 := Aside0.mk A40
  clear A40
  rcases sqI (t186 = true) with c5 | c5
  ·replace c5 := Bool.eq_false_iff.mpr c5
   subst c5
   have H1 : (spec_l12RefOk.j0 k true a0_0 l0_1 a0_2 a0_3 a0_4 a0_5) = some r := by rw [if_neg (show ¬ (false = true) by decide)] at H; exact H
   clear H
   have H := H1
   clear H1
   have H' := Aside0.mk H
   clear H
   try go_wp2
   replace BK185 := Aside0.mk (blk_drew BK185.out)
   replace HB := Aside0.mk (below_drew1 HB.out)
   refine start_ (n := 26) (S := fun w' => w'.cell? ⟨gb185, 0, none⟩ = some (.bool a0_0) ∧ w'.cell? ⟨gb185, 1, none⟩ = some (.slice A0_1 l0_1.length c0_1) ∧ w'.cell? ⟨gb185, 2, none⟩ = some (.int .i64 a0_2) ∧ w'.cell? ⟨gb185, 3, none⟩ = some (.int .i64 a0_3) ∧ w'.cell? ⟨gb185, 4, none⟩ = some (.int .i64 a0_4) ∧ w'.cell? ⟨gb185, 5, none⟩ = some (.int .i64 a0_5)) (ds := []) #[false, false, false, false, false, false, false, false, false, false, false, false, false, false, false, false, false, false, false, false, false, false, false, false, false, false] (by kernel_rfl) rfl rfl sqz (fun hHeld => ?_); refine with_tabW spec_l12RefOk.tab1 spec_l12RefOk.bits1 (fun HT_ HW_ => ?_)
   generalize w3.drew = w18 at BK185 HB hHeld ⊢
   refine sqp HT_ 0 4 ?_
   refine sqw HT_ HW_ 1 5 hHeld ?_
   refine sqo HT_ 2 6 (fun K hK => ?_)
   refine sqG Try.func44 #[.agg #[.int .i64 a0_2, .int .i64 a0_3, .int .i64 a0_4, .int .i64 a0_5]] ?_
   with_reducible refine (spec_ValOk.calls k a0_2 a0_3 a0_4 a0_5 false _ A4.out).mono ?_
   rintro e w19 ⟨rfl, hb⟩
   refine ⟨_, rfl, ?_⟩
   replace BK185 := sqb BK185 hb
   replace HB := sqs HB hb
   (try clear hb)
   refine hK.out _ _ sqz (fun hHeld => ?_)
   clear hK K
   refine sqnm ?_
   refine sqp HT_ 3 7 ?_
   refine sqp HT_ 4 8 ?_
   refine sqpu HT_ 5 9 ?_
   refine sqpu HT_ 6 10 ?_
   refine sqpu HT_ 7 11 ?_
   refine sqpu HT_ 8 12 ?_
   refine sqpu HT_ 9 13 ?_
   refine sqpu HT_ 10 14 ?_
   refine sqpu HT_ 11 15 ?_
   refine sqpu HT_ 12 16 ?_
   refine sqpu HT_ 13 17 ?_
   refine sqp HT_ 14 18 ?_
   refine sqp HT_ 15 19 ?_
   refine sqpu HT_ 16 20 ?_
   refine sqpu HT_ 17 21 ?_
   refine sqpu HT_ 18 22 ?_
   refine sqpu HT_ 19 23 ?_
   refine sqpu HT_ 20 24 ?_
   refine sqpu HT_ 21 25 ?_
   refine sqpu HT_ 22 26 ?_
   refine sqpu HT_ 23 27 ?_
   refine sqpu HT_ 24 28 ?_
   refine sqp HT_ 25 29 ?_
   refine done_ (done_of HT_.out (by kernel_rfl)) ?_
   try go_wp2
   go_meet
   case rel => exact ⟨_, (true), (by first | rfl | (simp; done) | (simp [*]; done)), H', ⟨by first | omega | exact Nat.le_refl _⟩, sqk BK185, sqh HB⟩
  subst c5
  have H1 : ((spec_l10None.f).bind fun bt187 => (if (((l0_1.length : Int) == 0) != (a0_2 == bt187.1 && (a0_3 == bt187.2.1 && (a0_4 == bt187.2.2.1 && (a0_5 == bt187.2.2.2))))) = true then (spec_l12RefOk.j0 k true a0_0 l0_1 a0_2 a0_3 a0_4 a0_5) else (if a0_0 = true then (spec_l12RefOk.j0 k false a0_0 l0_1 a0_2 a0_3 a0_4 a0_5) else (spec_l12RefOk.j0 k ((l0_1.length : Int) == 0) a0_0 l0_1 a0_2 a0_3 a0_4 a0_5)))) = some r := by rw [if_pos rfl] at H; exact H
  clear H
  have H := H1
  clear H1
  replace H := Option.bind_eq_some_iff.mp H
  obtain ⟨⟨t187, t188, t189, t190⟩, A60, H⟩ := H
  try dsimp only at H
  have A6 := Aside0.mk A60
  clear A60
  replace H := sqj H
  rcases H with ⟨c7, H⟩ | ⟨c7, H⟩
  ·have c7b0 : (((l0_1.length : Int) == 0) != (a0_2 == t187 && (a0_3 == t188 && (a0_4 == t189 && (a0_5 == t190))))) = true := c7
   (try (have c7b1 : decide (((l0_1.length : Int) == 0) = (a0_2 == t187 && (a0_3 == t188 && (a0_4 == t189 && (a0_5 == t190))))) = false := by simpa using c7))
   (try (have c7b2 : (((l0_1.length : Int) == 0) == (a0_2 == t187 && (a0_3 == t188 && (a0_4 == t189 && (a0_5 == t190))))) = false := by simpa using c7))
   (try (have c7b3 : ¬ (((l0_1.length : Int) == 0) = (a0_2 == t187 && (a0_3 == t188 && (a0_4 == t189 && (a0_5 == t190))))) := by simpa using c7))
   clear c7
   (first | rw [c7b0] | (simp only [i64_w, i32_w]; rw [c7b0]) | skip)
   have H' := Aside0.mk H
   clear H
   try go_wp2
   replace BK185 := Aside0.mk (blk_drew BK185.out)
   replace HB := Aside0.mk (below_drew1 HB.out)
   refine start_ (n := 26) (S := fun w' => w'.cell? ⟨gb185, 0, none⟩ = some (.bool a0_0) ∧ w'.cell? ⟨gb185, 1, none⟩ = some (.slice A0_1 l0_1.length c0_1) ∧ w'.cell? ⟨gb185, 2, none⟩ = some (.int .i64 a0_2) ∧ w'.cell? ⟨gb185, 3, none⟩ = some (.int .i64 a0_3) ∧ w'.cell? ⟨gb185, 4, none⟩ = some (.int .i64 a0_4) ∧ w'.cell? ⟨gb185, 5, none⟩ = some (.int .i64 a0_5)) (ds := []) #[false, false, false, false, false, false, false, false, false, false, false, false, false, false, false, false, false, false, false, false, false, false, false, false, false, false] (by kernel_rfl) rfl rfl sqz (fun hHeld => ?_); refine with_tabW spec_l12RefOk.tab1 spec_l12RefOk.bits1 (fun HT_ HW_ => ?_)
   generalize w3.drew = w8 at BK185 HB hHeld ⊢
   refine sqp HT_ 0 4 ?_
   refine sqw HT_ HW_ 1 5 hHeld ?_
   refine sqo HT_ 2 6 (fun K hK => ?_)
   refine sqG Try.func44 #[.agg #[.int .i64 a0_2, .int .i64 a0_3, .int .i64 a0_4, .int .i64 a0_5]] ?_
   with_reducible refine (spec_ValOk.calls k a0_2 a0_3 a0_4 a0_5 true _ A4.out).mono ?_
   rintro e w9 ⟨rfl, hb⟩
   refine ⟨_, rfl, ?_⟩
   replace BK185 := sqb BK185 hb
   replace HB := sqs HB hb
   (try clear hb)
   refine hK.out _ _ sqz (fun hHeld => ?_)
   clear hK K
   refine sqnm ?_
   refine sqp HT_ 3 7 ?_
   refine sqp HT_ 4 8 ?_
   refine sqp HT_ 5 9 ?_
   refine sqp HT_ 9 13 ?_
   refine sqw HT_ HW_ 6 10 hHeld ?_
   refine sqp HT_ 7 11 ?_
   refine sqp HT_ 8 12 ?_
   refine sqw HT_ HW_ 10 14 hHeld ?_
   refine sqo HT_ 11 15 (fun K hK => ?_)
   refine sqG Try.func45 #[] ?_
   with_reducible refine (spec_l10None.calls  t187 t188 t189 t190 _ A6.out).mono ?_
   rintro e w10 ⟨rfl, hb⟩
   refine ⟨_, rfl, ?_⟩
   replace BK185 := sqb BK185 hb
   replace HB := sqs HB hb
   (try clear hb)
   refine hK.out _ _ sqz (fun hHeld => ?_)
   clear hK K
   refine sqnm ?_
   refine sqp HT_ 12 16 ?_
   refine sqp HT_ 13 17 ?_
   refine sqp HT_ 14 18 ?_
   refine sqp HT_ 15 19 ?_
   refine sqpu HT_ 16 20 ?_
   refine sqpu HT_ 17 21 ?_
   refine sqpu HT_ 18 22 ?_
   refine sqpu HT_ 19 23 ?_
   refine sqpu HT_ 20 24 ?_
   refine sqpu HT_ 21 25 ?_
   refine sqpu HT_ 22 26 ?_
   refine sqpu HT_ 23 27 ?_
   refine sqpu HT_ 24 28 ?_
   refine sqp HT_ 25 29 ?_
   refine done_ (done_of HT_.out (by kernel_rfl)) ?_
   try go_wp2
   go_meet
   case rel => exact ⟨_, (true), (by first | rfl | (simp; done) | (simp [*]; done)), H', ⟨by first | omega | exact Nat.le_refl _⟩, sqk BK185, sqh HB⟩
  have c7b0 : (((l0_1.length : Int) == 0) != (a0_2 == t187 && (a0_3 == t188 && (a0_4 == t189 && (a0_5 == t190))))) = false := by simpa using c7
  (try (have c7b1 : decide (((l0_1.length : Int) == 0) = (a0_2 == t187 && (a0_3 == t188 && (a0_4 == t189 && (a0_5 == t190))))) = true := by simpa using c7))
  (try (have c7b2 : (((l0_1.length : Int) == 0) == (a0_2 == t187 && (a0_3 == t188 && (a0_4 == t189 && (a0_5 == t190))))) = true := by simpa using c7))
  clear c7
  (first | rw [c7b0] | (simp only [i64_w, i32_w]; rw [c7b0]) | skip)
  by_cases c11 : a0_0 = true
  ·subst c11
   have H1 : (spec_l12RefOk.j0 k false true l0_1 a0_2 a0_3 a0_4 a0_5) = some r := by rw [if_pos rfl] at H; exact H
   clear H
   have H := H1
   clear H1
   have H' := Aside0.mk H
   clear H
   try go_wp2
   replace BK185 := Aside0.mk (blk_drew BK185.out)
   replace HB := Aside0.mk (below_drew1 HB.out)
   refine start_ (n := 26) (S := fun w' => w'.cell? ⟨gb185, 0, none⟩ = some (.bool true) ∧ w'.cell? ⟨gb185, 1, none⟩ = some (.slice A0_1 l0_1.length c0_1) ∧ w'.cell? ⟨gb185, 2, none⟩ = some (.int .i64 a0_2) ∧ w'.cell? ⟨gb185, 3, none⟩ = some (.int .i64 a0_3) ∧ w'.cell? ⟨gb185, 4, none⟩ = some (.int .i64 a0_4) ∧ w'.cell? ⟨gb185, 5, none⟩ = some (.int .i64 a0_5)) (ds := []) #[false, false, false, false, false, false, false, false, false, false, false, false, false, false, false, false, false, false, false, false, false, false, false, false, false, false] (by kernel_rfl) rfl rfl sqz (fun hHeld => ?_); refine with_tabW spec_l12RefOk.tab1 spec_l12RefOk.bits1 (fun HT_ HW_ => ?_)
   generalize w3.drew = w12 at BK185 HB hHeld ⊢
   refine sqp HT_ 0 4 ?_
   refine sqw HT_ HW_ 1 5 hHeld ?_
   refine sqo HT_ 2 6 (fun K hK => ?_)
   refine sqG Try.func44 #[.agg #[.int .i64 a0_2, .int .i64 a0_3, .int .i64 a0_4, .int .i64 a0_5]] ?_
   with_reducible refine (spec_ValOk.calls k a0_2 a0_3 a0_4 a0_5 true _ A4.out).mono ?_
   rintro e w13 ⟨rfl, hb⟩
   refine ⟨_, rfl, ?_⟩
   replace BK185 := sqb BK185 hb
   replace HB := sqs HB hb
   (try clear hb)
   refine hK.out _ _ sqz (fun hHeld => ?_)
   clear hK K
   refine sqnm ?_
   refine sqp HT_ 3 7 ?_
   refine sqp HT_ 4 8 ?_
   refine sqp HT_ 5 9 ?_
   refine sqp HT_ 9 13 ?_
   refine sqw HT_ HW_ 6 10 hHeld ?_
   refine sqp HT_ 7 11 ?_
   refine sqp HT_ 8 12 ?_
   refine sqw HT_ HW_ 10 14 hHeld ?_
   refine sqo HT_ 11 15 (fun K hK => ?_)
   refine sqG Try.func45 #[] ?_
   with_reducible refine (spec_l10None.calls  t187 t188 t189 t190 _ A6.out).mono ?_
   rintro e w14 ⟨rfl, hb⟩
   refine ⟨_, rfl, ?_⟩
   replace BK185 := sqb BK185 hb
   replace HB := sqs HB hb
   (try clear hb)
   refine hK.out _ _ sqz (fun hHeld => ?_)
   clear hK K
   refine sqnm ?_
   refine sqp HT_ 12 16 ?_
   refine sqp HT_ 13 17 ?_
   refine sqp HT_ 14 18 ?_
   refine sqp HT_ 15 19 ?_
   refine sqp HT_ 16 20 ?_
   refine sqw HT_ HW_ 17 21 hHeld ?_
   refine sqp HT_ 18 22 ?_
   refine sqp HT_ 19 23 ?_
   refine sqpu HT_ 20 24 ?_
   refine sqpu HT_ 21 25 ?_
   refine sqpu HT_ 22 26 ?_
   refine sqpu HT_ 23 27 ?_
   refine sqp HT_ 24 28 ?_
   refine sqp HT_ 25 29 ?_
   refine done_ (done_of HT_.out (by kernel_rfl)) ?_
   try go_wp2
   go_meet
   case rel => exact ⟨_, (false), (by first | rfl | (simp; done) | (simp [*]; done)), H', ⟨by first | omega | exact Nat.le_refl _⟩, sqk BK185, sqh HB⟩
  replace c11 := Bool.eq_false_iff.mpr c11
  subst c11
  have H1 : (spec_l12RefOk.j0 k ((l0_1.length : Int) == 0) false l0_1 a0_2 a0_3 a0_4 a0_5) = some r := by rw [if_neg (show ¬ (false = true) by decide)] at H; exact H
  clear H
  have H := H1
  clear H1
  have H' := Aside0.mk H
  clear H
  try go_wp2
  replace BK185 := Aside0.mk (blk_drew BK185.out)
  replace HB := Aside0.mk (below_drew1 HB.out)
  refine start_ (n := 26) (S := fun w' => w'.cell? ⟨gb185, 0, none⟩ = some (.bool false) ∧ w'.cell? ⟨gb185, 1, none⟩ = some (.slice A0_1 l0_1.length c0_1) ∧ w'.cell? ⟨gb185, 2, none⟩ = some (.int .i64 a0_2) ∧ w'.cell? ⟨gb185, 3, none⟩ = some (.int .i64 a0_3) ∧ w'.cell? ⟨gb185, 4, none⟩ = some (.int .i64 a0_4) ∧ w'.cell? ⟨gb185, 5, none⟩ = some (.int .i64 a0_5)) (ds := []) #[false, false, false, false, false, false, false, false, false, false, false, false, false, false, false, false, false, false, false, false, false, false, false, false, false, false] (by kernel_rfl) rfl rfl sqz (fun hHeld => ?_); refine with_tabW spec_l12RefOk.tab1 spec_l12RefOk.bits1 (fun HT_ HW_ => ?_)
  generalize w3.drew = w15 at BK185 HB hHeld ⊢
  refine sqp HT_ 0 4 ?_
  refine sqw HT_ HW_ 1 5 hHeld ?_
  refine sqo HT_ 2 6 (fun K hK => ?_)
  refine sqG Try.func44 #[.agg #[.int .i64 a0_2, .int .i64 a0_3, .int .i64 a0_4, .int .i64 a0_5]] ?_
  with_reducible refine (spec_ValOk.calls k a0_2 a0_3 a0_4 a0_5 true _ A4.out).mono ?_
  rintro e w16 ⟨rfl, hb⟩
  refine ⟨_, rfl, ?_⟩
  replace BK185 := sqb BK185 hb
  replace HB := sqs HB hb
  (try clear hb)
  refine hK.out _ _ sqz (fun hHeld => ?_)
  clear hK K
  refine sqnm ?_
  refine sqp HT_ 3 7 ?_
  refine sqp HT_ 4 8 ?_
  refine sqp HT_ 5 9 ?_
  refine sqp HT_ 9 13 ?_
  refine sqw HT_ HW_ 6 10 hHeld ?_
  refine sqp HT_ 7 11 ?_
  refine sqp HT_ 8 12 ?_
  refine sqw HT_ HW_ 10 14 hHeld ?_
  refine sqo HT_ 11 15 (fun K hK => ?_)
  refine sqG Try.func45 #[] ?_
  with_reducible refine (spec_l10None.calls  t187 t188 t189 t190 _ A6.out).mono ?_
  rintro e w17 ⟨rfl, hb⟩
  refine ⟨_, rfl, ?_⟩
  replace BK185 := sqb BK185 hb
  replace HB := sqs HB hb
  (try clear hb)
  refine hK.out _ _ sqz (fun hHeld => ?_)
  clear hK K
  refine sqnm ?_
  refine sqp HT_ 12 16 ?_
  refine sqp HT_ 13 17 ?_
  refine sqp HT_ 14 18 ?_
  refine sqp HT_ 15 19 ?_
  refine sqp HT_ 16 20 ?_
  refine sqw HT_ HW_ 17 21 hHeld ?_
  refine sqp HT_ 18 22 ?_
  refine sqp HT_ 19 23 ?_
  refine sqp HT_ 20 24 ?_
  refine sqw HT_ HW_ 21 25 hHeld ?_
  refine sqp HT_ 22 26 ?_
  refine sqp HT_ 23 27 ?_
  refine sqp HT_ 24 28 ?_
  refine sqp HT_ 25 29 ?_
  refine done_ (done_of HT_.out (by kernel_rfl)) ?_
  try go_wp2
  go_meet
  case rel => exact ⟨_, (((l0_1.length : Int) == 0)), (by first | rfl | (simp; done) | (simp [*]; done)), H', ⟨by first | omega | exact Nat.le_refl _⟩, sqk BK185, sqh HB⟩
 case rest =>
  clear HC2
  obtain ⟨kq, x29_1, rfl, HA, HJ1, BK185, HB⟩ := hcut
  cases kq with
  | zero => exact absurd HA.out (by simp [spec_l12RefOk.j0])
  | succ kj1 =>
   have H := HA.out
   clear HA
   simp only [spec_l12RefOk.j0] at H
   by_cases c20 : x29_1 = true
   ·subst c20
    have H1 : (some false) = some r := by rw [if_pos rfl] at H; exact H
    clear H
    have H := H1
    clear H1
    obtain rfl := Option.some.inj H
    go_wp2
    go_ret
    exact sqe HB
   replace c20 := Bool.eq_false_iff.mpr c20
   subst c20
   have H1 : (spec_l12RefOk.l0 kj1 0 a0_0 l0_1 a0_2 a0_3 a0_4 a0_5) = some r := by rw [if_neg (show ¬ (false = true) by decide)] at H; exact H
   clear H
   have H := H1
   clear H1
   have H' := Aside0.mk H
   clear H
   go_wp2
   go_loopg [3] kj1 (fun kq v3 w' => ∃ (x3_2 : Int), v3 = .int .i64 x3_2 ∧ Aside0 (spec_l12RefOk.l0 kq x3_2 a0_0 l0_1 a0_2 a0_3 a0_4 a0_5 = some r) ∧ Aside0 (kq ≤ kj1) ∧ Aside0 (w'.heap[gb185]? = some (.cells #[.bool a0_0, (.slice A0_1 l0_1.length c0_1), .int .i64 a0_2, .int .i64 a0_3, .int .i64 a0_4, .int .i64 a0_5] 63 (0, 0))) ∧ Aside0 (Below w.heap.size w w'))
   case atStart => exact ⟨(0), (by first | rfl | (simp; done) | (simp [*]; done)), H', ⟨Nat.le_refl _⟩, sqk BK185, sqh HB⟩
   case round =>
    clear H'
    obtain ⟨x3_2, rfl, HA, HK2, BK185, HB⟩ := hrel
    cases gk with
    | zero => exact absurd HA.out (by simp [spec_l12RefOk.l0])
    | succ k2 =>
     have H := HA.out
     clear HA
     simp only [spec_l12RefOk.l0] at H
     replace H := sqi H
     rcases H with ⟨c21, H⟩ | ⟨c21, H⟩
     ·have c21b0 := decide_eq_false c21
      clear c21
      obtain rfl := Option.some.inj H
      obtain ⟨hcz37_0, hcz37_1, hcz37_2, hcz37_3, hcz37_4, hcz37_5, hfz37_0, hfz37_1, hfz37_2, hfz37_3, hfz37_4, hfz37_5⟩ := sqc6 BK185
      go_wp2
      go_ret
      exact sqe HB
     have c21b0 := decide_eq_true c21
     clear c21
     replace H := sqi H
     rcases H with ⟨c22, H⟩ | ⟨c22, H⟩
     ·exact absurd H (by simp)
     have c22b0 := decide_eq_true c22
     clear c22
     replace H := sqj H
     rcases H with ⟨c23, H⟩ | ⟨c23, H⟩
     ·have c23b0 := decide_eq_true c23
      clear c23
      obtain rfl := Option.some.inj H
      obtain ⟨hcz24_0, hcz24_1, hcz24_2, hcz24_3, hcz24_4, hcz24_5, hfz24_0, hfz24_1, hfz24_2, hfz24_3, hfz24_4, hfz24_5⟩ := sqc6 BK185
      try go_wp2
      replace BK185 := Aside0.mk (blk_drew BK185.out)
      replace HB := Aside0.mk (below_drew1 HB.out)
      have p191 : 0 ≤ (x3_2 : Int) := sqd
      have q191 : x3_2 < (l0_1.length : Int) := sqd
      obtain ⟨ad191, e191, hx191_0⟩ := Kd.at_int HR0_1.out x3_2 p191 q191
      have hw191_0 := hx191_0
      cases e191
      replace hx191_0 := sqa HB hx191_0
      replace p191 := eq_true p191
      replace q191 := eq_true q191
      refine start_ (n := 24) (S := fun w' => w'.cell? ⟨gb185, 0, none⟩ = some (.bool a0_0) ∧ w'.cell? ⟨gb185, 1, none⟩ = some (.slice (some ad191) l0_1.length c0_1) ∧ w'.cell? ⟨gb185, 2, none⟩ = some (.int .i64 a0_2) ∧ w'.cell? ⟨gb185, 3, none⟩ = some (.int .i64 a0_3) ∧ w'.cell? ⟨gb185, 4, none⟩ = some (.int .i64 a0_4) ∧ w'.cell? ⟨gb185, 5, none⟩ = some (.int .i64 a0_5) ∧ w'.cell? (ad191.add (x3_2).toNat) = some (.int .i64 (rd l0_1 x3_2))) (ds := []) #[false, false, false, false, false, false, false, false, false, false, false, false, false, false, false, false, false, false, false, false, false, false, false, false] (by kernel_rfl) rfl rfl ⟨(blk_cell BK185.out 0).trans rfl, (blk_cell BK185.out 1).trans rfl, (blk_cell BK185.out 2).trans rfl, (blk_cell BK185.out 3).trans rfl, (blk_cell BK185.out 4).trans rfl, (blk_cell BK185.out 5).trans rfl, (sqa HB hw191_0 :)⟩ (fun hHeld => ?_); refine with_tabW spec_l12RefOk.tab6 spec_l12RefOk.bits6 (fun HT_ HW_ => ?_)
      generalize wr.drew = w25 at BK185 HB hx191_0 hHeld ⊢
      refine sqp HT_ 0 37 ?_
      refine sqp HT_ 2 39 ?_
      refine sqw HT_ HW_ 1 38 hHeld ?_
      refine sqp HT_ 3 40 ?_
      refine sqw HT_ HW_ 4 41 hHeld ?_
      refine sqp HT_ 5 42 ?_
      refine sqp HT_ 6 43 ?_
      refine sqpu HT_ 7 44 ?_
      refine sqpu HT_ 8 45 ?_
      refine sqpu HT_ 9 46 ?_
      refine sqpu HT_ 10 47 ?_
      refine sqpu HT_ 11 48 ?_
      refine sqpu HT_ 12 49 ?_
      refine sqpu HT_ 13 50 ?_
      refine sqpu HT_ 14 51 ?_
      refine sqpu HT_ 15 52 ?_
      refine sqpu HT_ 16 53 ?_
      refine sqpu HT_ 17 54 ?_
      refine sqpu HT_ 18 55 ?_
      refine sqpu HT_ 19 56 ?_
      refine sqpu HT_ 20 57 ?_
      refine sqpu HT_ 21 58 ?_
      refine sqpu HT_ 22 59 ?_
      refine sqp HT_ 23 60 ?_
      refine done_ (done_of HT_.out (by kernel_rfl)) ?_
      try go_wp2
      go_ret
      exact sqe HB
     have c23b0 := decide_eq_false c23
     clear c23
     replace H := sqi H
     rcases H with ⟨c26, H⟩ | ⟨c26, H⟩
     ·have c26b0 : decide (0 < x3_2) = false := decide_eq_false c26
      clear c26
      have H' := Aside0.mk H
      clear H
      obtain ⟨hcz35_0, hcz35_1, hcz35_2, hcz35_3, hcz35_4, hcz35_5, hfz35_0, hfz35_1, hfz35_2, hfz35_3, hfz35_4, hfz35_5⟩ := sqc6 BK185
      try go_wp2
      replace BK185 := Aside0.mk (blk_drew BK185.out)
      replace HB := Aside0.mk (below_drew1 HB.out)
      have p191 : 0 ≤ (x3_2 : Int) := sqd
      have q191 : x3_2 < (l0_1.length : Int) := sqd
      obtain ⟨ad191, e191, hx191_0⟩ := Kd.at_int HR0_1.out x3_2 p191 q191
      have hw191_0 := hx191_0
      cases e191
      replace hx191_0 := sqa HB hx191_0
      replace p191 := eq_true p191
      replace q191 := eq_true q191
      refine start_ (n := 24) (S := fun w' => w'.cell? ⟨gb185, 0, none⟩ = some (.bool a0_0) ∧ w'.cell? ⟨gb185, 1, none⟩ = some (.slice (some ad191) l0_1.length c0_1) ∧ w'.cell? ⟨gb185, 2, none⟩ = some (.int .i64 a0_2) ∧ w'.cell? ⟨gb185, 3, none⟩ = some (.int .i64 a0_3) ∧ w'.cell? ⟨gb185, 4, none⟩ = some (.int .i64 a0_4) ∧ w'.cell? ⟨gb185, 5, none⟩ = some (.int .i64 a0_5) ∧ w'.cell? (ad191.add (x3_2).toNat) = some (.int .i64 (rd l0_1 x3_2))) (ds := []) #[false, false, false, false, false, false, false, false, false, false, false, false, false, false, false, false, false, false, false, false, false, false, false, false] (by kernel_rfl) rfl rfl ⟨(blk_cell BK185.out 0).trans rfl, (blk_cell BK185.out 1).trans rfl, (blk_cell BK185.out 2).trans rfl, (blk_cell BK185.out 3).trans rfl, (blk_cell BK185.out 4).trans rfl, (blk_cell BK185.out 5).trans rfl, (sqa HB hw191_0 :)⟩ (fun hHeld => ?_); refine with_tabW spec_l12RefOk.tab6 spec_l12RefOk.bits6 (fun HT_ HW_ => ?_)
      generalize wr.drew = w36 at BK185 HB hx191_0 hHeld ⊢
      refine sqp HT_ 0 37 ?_
      refine sqp HT_ 2 39 ?_
      refine sqw HT_ HW_ 1 38 hHeld ?_
      refine sqp HT_ 3 40 ?_
      refine sqw HT_ HW_ 4 41 hHeld ?_
      refine sqp HT_ 5 42 ?_
      refine sqp HT_ 6 43 ?_
      refine sqp HT_ 7 44 ?_
      refine sqp HT_ 8 45 ?_
      refine sqp HT_ 9 46 ?_
      refine sqpu HT_ 10 47 ?_
      refine sqpu HT_ 11 48 ?_
      refine sqpu HT_ 12 49 ?_
      refine sqpu HT_ 13 50 ?_
      refine sqpu HT_ 14 51 ?_
      refine sqpu HT_ 15 52 ?_
      refine sqpu HT_ 16 53 ?_
      refine sqpu HT_ 17 54 ?_
      refine sqpu HT_ 18 55 ?_
      refine sqpu HT_ 19 56 ?_
      refine sqpu HT_ 20 57 ?_
      refine sqpu HT_ 21 58 ?_
      refine sqp HT_ 22 59 ?_
      refine sqp HT_ 23 60 ?_
      refine done_ (done_of HT_.out (by kernel_rfl)) ?_
      try go_wp2
      go_roundg k2
      case measure => have := HJ1.out; have := HK2.out; omega
      case rel => exact ⟨(wrap64 (x3_2 + 1)), (by first | rfl | (simp; done) | (simp [*]; done)), H', ⟨by have := HJ1.out; have := HK2.out; omega⟩, sqk BK185, sqh HB⟩
     have c26b0 : decide (0 < x3_2) = true := decide_eq_true c26
     clear c26
     obtain ⟨ji27, hji27⟩ : ∃ j_ : Int, (wrap64 (x3_2 - 1)) = j_ := ⟨_, rfl⟩
     replace H : (if 0 ≤ (ji27) then (if (ji27) < (l0_1.length : Int) then (if (rd l0_1 (ji27)) ≥ (rd l0_1 x3_2) then (some false) else (spec_l12RefOk.l0 k2 (wrap64 (x3_2 + 1)) a0_0 l0_1 a0_2 a0_3 a0_4 a0_5)) else (none)) else (none)) = some r := by first | (rw [hji27] at H; exact H) | (simp only [hji27] at H ⊢; exact H)
     have hji27w : (IntKind.i64.wrap (x3_2 - 1)) = ji27 := (i64_w _).trans hji27
     replace H := sqi H
     rcases H with ⟨c28, H⟩ | ⟨c28, H⟩
     ·exact absurd H (by simp)
     have c28b0 := decide_eq_true c28
     clear c28
     replace H := sqi H
     rcases H with ⟨c29, H⟩ | ⟨c29, H⟩
     ·exact absurd H (by simp)
     have c29b0 := decide_eq_true c29
     clear c29
     replace H := sqj H
     rcases H with ⟨c30, H⟩ | ⟨c30, H⟩
     ·have c30b0 : decide ((rd l0_1 x3_2) ≤ (rd l0_1 (ji27))) = true := decide_eq_true c30
      clear c30
      obtain rfl := Option.some.inj H
      obtain ⟨hcz31_0, hcz31_1, hcz31_2, hcz31_3, hcz31_4, hcz31_5, hfz31_0, hfz31_1, hfz31_2, hfz31_3, hfz31_4, hfz31_5⟩ := sqc6 BK185
      try go_wp2
      replace BK185 := Aside0.mk (blk_drew BK185.out)
      replace HB := Aside0.mk (below_drew1 HB.out)
      have p191 : 0 ≤ (x3_2 : Int) := sqd
      have q191 : x3_2 < (l0_1.length : Int) := sqd
      obtain ⟨ad191, e191, hx191_0⟩ := Kd.at_int HR0_1.out x3_2 p191 q191
      have hw191_0 := hx191_0
      cases e191
      replace hx191_0 := sqa HB hx191_0
      replace p191 := eq_true p191
      replace q191 := eq_true q191
      have p192 : 0 ≤ ((ji27) : Int) := sqd
      have q192 : (ji27) < (l0_1.length : Int) := sqd
      obtain ⟨ad192, e192, hx192_0⟩ := Kd.at_int HR0_1.out (ji27) p192 q192
      have hw192_0 := hx192_0
      obtain rfl : ad191 = ad192 := (by injection e192)
      replace hx192_0 := sqa HB hx192_0
      replace p192 := eq_true p192
      replace q192 := eq_true q192
      have p193 : 0 ≤ (x3_2 : Int) := sqd
      have q193 : x3_2 < (l0_1.length : Int) := sqd
      obtain ⟨ad193, e193, hx193_0⟩ := Kd.at_int HR0_1.out x3_2 p193 q193
      have hw193_0 := hx193_0
      obtain rfl : ad191 = ad193 := (by injection e193)
      replace hx193_0 := sqa HB hx193_0
      replace p193 := eq_true p193
      replace q193 := eq_true q193
      refine start_ (n := 24) (S := fun w' => w'.cell? ⟨gb185, 0, none⟩ = some (.bool a0_0) ∧ w'.cell? ⟨gb185, 1, none⟩ = some (.slice (some ad191) l0_1.length c0_1) ∧ w'.cell? ⟨gb185, 2, none⟩ = some (.int .i64 a0_2) ∧ w'.cell? ⟨gb185, 3, none⟩ = some (.int .i64 a0_3) ∧ w'.cell? ⟨gb185, 4, none⟩ = some (.int .i64 a0_4) ∧ w'.cell? ⟨gb185, 5, none⟩ = some (.int .i64 a0_5) ∧ w'.cell? (ad191.add (x3_2).toNat) = some (.int .i64 (rd l0_1 x3_2)) ∧ w'.cell? (ad191.add ((ji27)).toNat) = some (.int .i64 (rd l0_1 (ji27))) ∧ w'.cell? (ad191.add (x3_2).toNat) = some (.int .i64 (rd l0_1 x3_2))) (ds := []) #[false, false, false, false, false, false, false, false, false, false, false, false, false, false, false, false, false, false, false, false, false, false, false, false] (by kernel_rfl) rfl rfl ⟨(blk_cell BK185.out 0).trans rfl, (blk_cell BK185.out 1).trans rfl, (blk_cell BK185.out 2).trans rfl, (blk_cell BK185.out 3).trans rfl, (blk_cell BK185.out 4).trans rfl, (blk_cell BK185.out 5).trans rfl, (sqa HB hw191_0 :), (sqa HB hw192_0 :), (sqa HB hw193_0 :)⟩ (fun hHeld => ?_); refine with_tabW spec_l12RefOk.tab6 spec_l12RefOk.bits6 (fun HT_ HW_ => ?_)
      generalize wr.drew = w32 at BK185 HB hx191_0 hx192_0 hx193_0 hHeld ⊢
      refine sqp HT_ 0 37 ?_
      refine sqp HT_ 2 39 ?_
      refine sqw HT_ HW_ 1 38 hHeld ?_
      refine sqp HT_ 3 40 ?_
      refine sqw HT_ HW_ 4 41 hHeld ?_
      refine sqp HT_ 5 42 ?_
      refine sqp HT_ 6 43 ?_
      refine sqp HT_ 7 44 ?_
      refine sqp HT_ 8 45 ?_
      refine sqp HT_ 9 46 ?_
      refine sqp HT_ 10 47 ?_
      refine sqp HT_ 12 49 ?_
      refine sqp HT_ 13 50 ?_
      refine sqp HT_ 16 53 ?_
      refine sqp HT_ 18 55 ?_
      refine sqw HT_ HW_ 11 48 hHeld ?_
      refine sqp HT_ 14 51 ?_
      refine sqw HT_ HW_ 15 52 hHeld ?_
      refine sqw HT_ HW_ 17 54 hHeld ?_
      refine sqp HT_ 19 56 ?_
      refine sqw HT_ HW_ 20 57 hHeld ?_
      refine sqp HT_ 21 58 ?_
      refine sqp HT_ 22 59 ?_
      refine sqp HT_ 23 60 ?_
      refine done_ (done_of HT_.out (by kernel_rfl)) ?_
      try go_wp2
      go_ret
      exact ⟨by first | rfl | (simp [errW_none, errW_some] <;> rfl) | (simp only [← hji27]; first | rfl | (simp [errW_none, errW_some] <;> rfl)) | (simp [*, errW_none, errW_some] <;> rfl), sqB HB⟩
     have c30b0 : decide ((rd l0_1 x3_2) ≤ (rd l0_1 (ji27))) = false := decide_eq_false c30
     clear c30
     have H' := Aside0.mk H
     clear H
     obtain ⟨hcz33_0, hcz33_1, hcz33_2, hcz33_3, hcz33_4, hcz33_5, hfz33_0, hfz33_1, hfz33_2, hfz33_3, hfz33_4, hfz33_5⟩ := sqc6 BK185
     try go_wp2
     replace BK185 := Aside0.mk (blk_drew BK185.out)
     replace HB := Aside0.mk (below_drew1 HB.out)
     have p191 : 0 ≤ (x3_2 : Int) := sqd
     have q191 : x3_2 < (l0_1.length : Int) := sqd
     obtain ⟨ad191, e191, hx191_0⟩ := Kd.at_int HR0_1.out x3_2 p191 q191
     have hw191_0 := hx191_0
     cases e191
     replace hx191_0 := sqa HB hx191_0
     replace p191 := eq_true p191
     replace q191 := eq_true q191
     have p192 : 0 ≤ ((ji27) : Int) := sqd
     have q192 : (ji27) < (l0_1.length : Int) := sqd
     obtain ⟨ad192, e192, hx192_0⟩ := Kd.at_int HR0_1.out (ji27) p192 q192
     have hw192_0 := hx192_0
     obtain rfl : ad191 = ad192 := (by injection e192)
     replace hx192_0 := sqa HB hx192_0
     replace p192 := eq_true p192
     replace q192 := eq_true q192
     have p193 : 0 ≤ (x3_2 : Int) := sqd
     have q193 : x3_2 < (l0_1.length : Int) := sqd
     obtain ⟨ad193, e193, hx193_0⟩ := Kd.at_int HR0_1.out x3_2 p193 q193
     have hw193_0 := hx193_0
     obtain rfl : ad191 = ad193 := (by injection e193)
     replace hx193_0 := sqa HB hx193_0
     replace p193 := eq_true p193
     replace q193 := eq_true q193
     refine start_ (n := 24) (S := fun w' => w'.cell? ⟨gb185, 0, none⟩ = some (.bool a0_0) ∧ w'.cell? ⟨gb185, 1, none⟩ = some (.slice (some ad191) l0_1.length c0_1) ∧ w'.cell? ⟨gb185, 2, none⟩ = some (.int .i64 a0_2) ∧ w'.cell? ⟨gb185, 3, none⟩ = some (.int .i64 a0_3) ∧ w'.cell? ⟨gb185, 4, none⟩ = some (.int .i64 a0_4) ∧ w'.cell? ⟨gb185, 5, none⟩ = some (.int .i64 a0_5) ∧ w'.cell? (ad191.add (x3_2).toNat) = some (.int .i64 (rd l0_1 x3_2)) ∧ w'.cell? (ad191.add ((ji27)).toNat) = some (.int .i64 (rd l0_1 (ji27))) ∧ w'.cell? (ad191.add (x3_2).toNat) = some (.int .i64 (rd l0_1 x3_2))) (ds := []) #[false, false, false, false, false, false, false, false, false, false, false, false, false, false, false, false, false, false, false, false, false, false, false, false] (by kernel_rfl) rfl rfl ⟨(blk_cell BK185.out 0).trans rfl, (blk_cell BK185.out 1).trans rfl, (blk_cell BK185.out 2).trans rfl, (blk_cell BK185.out 3).trans rfl, (blk_cell BK185.out 4).trans rfl, (blk_cell BK185.out 5).trans rfl, (sqa HB hw191_0 :), (sqa HB hw192_0 :), (sqa HB hw193_0 :)⟩ (fun hHeld => ?_); refine with_tabW spec_l12RefOk.tab6 spec_l12RefOk.bits6 (fun HT_ HW_ => ?_)
     generalize wr.drew = w34 at BK185 HB hx191_0 hx192_0 hx193_0 hHeld ⊢
     refine sqp HT_ 0 37 ?_
     refine sqp HT_ 2 39 ?_
     refine sqw HT_ HW_ 1 38 hHeld ?_
     refine sqp HT_ 3 40 ?_
     refine sqw HT_ HW_ 4 41 hHeld ?_
     refine sqp HT_ 5 42 ?_
     refine sqp HT_ 6 43 ?_
     refine sqp HT_ 7 44 ?_
     refine sqp HT_ 8 45 ?_
     refine sqp HT_ 9 46 ?_
     refine sqp HT_ 10 47 ?_
     refine sqp HT_ 12 49 ?_
     refine sqp HT_ 13 50 ?_
     refine sqp HT_ 16 53 ?_
     refine sqp HT_ 18 55 ?_
     refine sqw HT_ HW_ 11 48 hHeld ?_
     refine sqp HT_ 14 51 ?_
     refine sqw HT_ HW_ 15 52 hHeld ?_
     refine sqw HT_ HW_ 17 54 hHeld ?_
     refine sqp HT_ 19 56 ?_
     refine sqw HT_ HW_ 20 57 hHeld ?_
     refine sqp HT_ 21 58 ?_
     refine sqp HT_ 22 59 ?_
     refine sqp HT_ 23 60 ?_
     refine done_ (done_of HT_.out (by kernel_rfl)) ?_
     try go_wp2
     go_roundg k2
     case measure => have := HJ1.out; have := HK2.out; omega
     case rel => exact ⟨(wrap64 (x3_2 + 1)), (by first | rfl | (simp; done) | (simp [*]; done)), H', ⟨by have := HJ1.out; have := HK2.out; omega⟩, sqk BK185, sqh HB⟩

end Go.Proofs.Ytnmgckdgmplddaa.PFnExactAbsHas
