/- Functions of the program as plain Lean functions, and that calls of them come to what these tell. Conditions: those in each law. -/
import Derived.Test.YtnmgckdgmplddaaSq
import Derived.Test.YtnmgckdgmplddaaDFnExactAbsHas
import Derived.Test.YtnmgckdgmplddaaQFnExactAbsHasx0
import Derived.Test.YtnmgckdgmplddaaQFnExactAbsHasx1
import Derived.Test.YtnmgckdgmplddaaQFnExactAbsHasx3
import Derived.Test.YtnmgckdgmplddaaQFnExactAbsHasx4
import Derived.Test.YtnmgckdgmplddaaQFnExactAbsHasx6
namespace Go.Proofs.Ytnmgckdgmplddaa.PFnExactAbsHas
open Go.RowKit Go.Proofs.Ytnmgckdgmplddaa.Sq Go.Proofs.YtnmgckdgmplddaaW.PrintWords Go.Proofs.YtnmgckdgmplddaaW.PrintLast Go.Proofs.YtnmgckdgmplddaaW.PrintMore
attribute [local go_sem] max2_int min2_int max_two min_two max_three min_three max_four min_four   -- for this text's walks alone
set_option linter.unusedVariables false
set_option linter.unusedSimpArgs false

attribute [local go_sem high] eqA60
/-! ### spec_ValOk: function 44 -/
def spec_ValOk.T1 : Bool × List (List Nat × List Nat) := (true, [([], []), ([], []), ([0, 1], [0, 1]), ([2, 1], [2]), ([3], [3]), ([4, 3, 3], [3, 4]), ([5, 5, 3], [3, 5]), ([6, 6, 3], [3, 6]), ([7], [7]), ([8, 7, 7], [7, 8]), ([9, 9, 7], [7, 9]), ([7, 10, 3], [3, 7, 10]), ([11, 10, 3], [3, 11]), ([12], [12]), ([12], [12]), ([14, 12, 12], [12, 14]), ([12], [12]), ([16, 15, 12], [12, 16]), ([15, 17, 17, 12], [12, 15, 17]), ([13, 18, 12], [12, 13, 18]), ([12, 19, 3], [3, 12, 19]), ([3, 20], [3, 20]), ([21, 18, 0, 1, 2, 3, 4, 5, 6, 7, 8, 9, 10, 11, 12, 13, 14, 15, 16, 17, 18, 19, 20, 21], [21])])
def spec_ValOk.B1 : List Nat := [0, 0, 3, 7, 15, 31, 63, 127, 255, 511, 1023, 2047, 4095, 8191, 8191, 24575, 8191, 122879, 253951, 524287, 1048575, 2097151, 4194303]
theorem spec_ValOk.tab1 : rtab .any (opsOf Try.f44 1) = spec_ValOk.T1 := by kernel_rfl
theorem spec_ValOk.bits1 : waitsOk spec_ValOk.T1.2 spec_ValOk.B1 = true := by kernel_rfl
set_option maxHeartbeats 8000000 in
set_option maxRecDepth 100000 in
theorem spec_ValOk.calls (k : Nat) (a0_0 : Int) (a0_1 : Int) (a0_2 : Int) (a0_3 : Int) (r : Bool) (w : World) (h : spec_ValOk.f k a0_0 a0_1 a0_2 a0_3 = some r) :
  Calls Try.prog 44 #[.agg #[.int .i64 a0_0, .int .i64 a0_1, .int .i64 a0_2, .int .i64 a0_3]] w fun e w' => e = .returned (.bool r) ∧ Below w.heap.size w w' := by
 have hu60 := Try.underlying60
 have HB := Aside0.mk (Below.refl w.heap.size w)
 have H := h
 unfold spec_ValOk.f at H
 clear h
 replace H := Option.bind_eq_some_iff.mp H
 obtain ⟨⟨t167, t168, t169, t170⟩, A20, H⟩ := H
 try dsimp only at H
 have A2 := Aside0.mk A20
 clear A20
 replace H := sqj H
 rcases H with ⟨c3, H⟩ | ⟨c3, H⟩
 ·have c3b0 : (a0_0 == t167 && (a0_1 == t168 && (a0_2 == t169 && (a0_3 == t170)))) = true := c3
  (try (have c3b1 : decide (a0_0 = t167 && (a0_1 == t168 && (a0_2 == t169 && (a0_3 == t170)))) = true := by simpa using c3))
  (try (have c3b2 : (a0_0 == t167 && (a0_1 == t168 && (a0_2 == t169 && (a0_3 == t170)))) = true := by simpa using c3))
  clear c3
  obtain rfl := Option.some.inj H
  go_enter Try.func44, Try.ntmps44
  try go_wp2_with (first | ((with_reducible refine gate_dst (N := 1) rfl ?_); refine sqx 1 #[.int .i64 a0_0, .int .i64 a0_1, .int .i64 a0_2, .int .i64 a0_3] 60 ?_; intro gb166 hg w4 hbox hb; have BK166 := Aside0.mk hbox; have GW166 := sqg HB hg; have GE166 := sqg HB hg; replace HB := sqs HB hb; clear hb hbox hg))
  replace BK166 := Aside0.mk (blk_drew BK166.out)
  replace HB := Aside0.mk (below_drew1 HB.out)
  refine start_ (n := 23) (S := fun w' => w'.cell? ⟨gb166, 0, none⟩ = some (.int .i64 a0_0) ∧ w'.cell? ⟨gb166, 1, none⟩ = some (.int .i64 a0_1) ∧ w'.cell? ⟨gb166, 2, none⟩ = some (.int .i64 a0_2) ∧ w'.cell? ⟨gb166, 3, none⟩ = some (.int .i64 a0_3)) (ds := []) #[false, false, false, false, false, false, false, false, false, false, false, false, false, false, false, false, false, false, false, false, false, false, false] (by kernel_rfl) rfl rfl sqz (fun hHeld => ?_); refine with_tabW spec_ValOk.tab1 spec_ValOk.bits1 (fun HT_ HW_ => ?_)
  generalize w4.drew = w5 at BK166 HB hHeld ⊢
  refine sqw HT_ HW_ 0 3 hHeld ?_
  refine sqo HT_ 1 4 (fun K hK => ?_)
  refine sqG Try.func45 #[] ?_
  with_reducible refine (spec_l10None.calls  t167 t168 t169 t170 _ A2.out).mono ?_
  rintro e w6 ⟨rfl, hb⟩
  refine ⟨_, rfl, ?_⟩
  replace BK166 := sqb BK166 hb
  replace HB := sqs HB hb
  (try clear hb)
  refine hK.out _ _ sqz (fun hHeld => ?_)
  clear hK K
  refine sqnm ?_
  refine sqp HT_ 2 5 ?_
  refine sqp HT_ 3 6 ?_
  refine sqpu HT_ 4 7 ?_
  refine sqpu HT_ 5 8 ?_
  refine sqpu HT_ 6 9 ?_
  refine sqpu HT_ 7 10 ?_
  refine sqpu HT_ 8 11 ?_
  refine sqpu HT_ 9 12 ?_
  refine sqpu HT_ 10 13 ?_
  refine sqpu HT_ 11 14 ?_
  refine sqpu HT_ 12 15 ?_
  refine sqpu HT_ 13 16 ?_
  refine sqpu HT_ 14 17 ?_
  refine sqpu HT_ 15 18 ?_
  refine sqpu HT_ 16 19 ?_
  refine sqpu HT_ 17 20 ?_
  refine sqpu HT_ 18 21 ?_
  refine sqpu HT_ 19 22 ?_
  refine sqpu HT_ 20 23 ?_
  refine sqp HT_ 21 24 ?_
  refine sqp HT_ 22 2 ?_
  refine done_ (done_of HT_.out (by kernel_rfl)) ?_
  try go_wp2
  go_ret
  exact sqe HB
 have c3b0 : (a0_0 == t167 && (a0_1 == t168 && (a0_2 == t169 && (a0_3 == t170)))) = false := by simpa using c3
 (try (have c3b1 : decide (a0_0 = t167 && (a0_1 == t168 && (a0_2 == t169 && (a0_3 == t170)))) = false := by simpa using c3))
 (try (have c3b2 : (a0_0 == t167 && (a0_1 == t168 && (a0_2 == t169 && (a0_3 == t170)))) = false := by simpa using c3))
 (try (have c3b3 : ¬ (a0_0 = t167 && (a0_1 == t168 && (a0_2 == t169 && (a0_3 == t170)))) := by simpa using c3))
 clear c3
 replace H := Option.bind_eq_some_iff.mp H
 obtain ⟨⟨t171, t172⟩, A70, H⟩ := H
 try dsimp only at H
 have A7 := Aside0.mk A70
 clear A70
 replace H := Option.bind_eq_some_iff.mp H
 obtain ⟨t173, A80, H⟩ := H
 try dsimp only at H
 have A8 := Aside0.mk A80
 clear A80
 rcases sqI (t173 = true) with c9 | c9
 ·replace c9 := Bool.eq_false_iff.mpr c9
  subst c9
  have H1 : (some false) = some r := by rw [if_neg (show ¬ (false = true) by decide)] at H; exact H
  clear H
  have H := H1
  clear H1
  obtain rfl := Option.some.inj H
  go_enter Try.func44, Try.ntmps44
  try go_wp2_with (first | ((with_reducible refine gate_dst (N := 1) rfl ?_); refine sqx 1 #[.int .i64 a0_0, .int .i64 a0_1, .int .i64 a0_2, .int .i64 a0_3] 60 ?_; intro gb166 hg w33 hbox hb; have BK166 := Aside0.mk hbox; have GW166 := sqg HB hg; have GE166 := sqg HB hg; replace HB := sqs HB hb; clear hb hbox hg))
  replace BK166 := Aside0.mk (blk_drew BK166.out)
  replace HB := Aside0.mk (below_drew1 HB.out)
  refine start_ (n := 23) (S := fun w' => w'.cell? ⟨gb166, 0, none⟩ = some (.int .i64 a0_0) ∧ w'.cell? ⟨gb166, 1, none⟩ = some (.int .i64 a0_1) ∧ w'.cell? ⟨gb166, 2, none⟩ = some (.int .i64 a0_2) ∧ w'.cell? ⟨gb166, 3, none⟩ = some (.int .i64 a0_3)) (ds := []) #[false, false, false, false, false, false, false, false, false, false, false, false, false, false, false, false, false, false, false, false, false, false, false] (by kernel_rfl) rfl rfl sqz (fun hHeld => ?_); refine with_tabW spec_ValOk.tab1 spec_ValOk.bits1 (fun HT_ HW_ => ?_)
  generalize w33.drew = w34 at BK166 HB hHeld ⊢
  refine sqw HT_ HW_ 0 3 hHeld ?_
  refine sqo HT_ 1 4 (fun K hK => ?_)
  refine sqG Try.func45 #[] ?_
  with_reducible refine (spec_l10None.calls  t167 t168 t169 t170 _ A2.out).mono ?_
  rintro e w35 ⟨rfl, hb⟩
  refine ⟨_, rfl, ?_⟩
  replace BK166 := sqb BK166 hb
  replace HB := sqs HB hb
  (try clear hb)
  refine hK.out _ _ sqz (fun hHeld => ?_)
  clear hK K
  refine sqnm ?_
  refine sqp HT_ 2 5 ?_
  refine sqp HT_ 3 6 ?_
  refine sqw HT_ HW_ 4 7 hHeld ?_
  refine sqo HT_ 5 8 (fun K hK => ?_)
  refine sqG Try.func47 #[.agg #[.int .i64 a0_0, .int .i64 a0_1, .int .i64 a0_2, .int .i64 a0_3]] ?_
  with_reducible refine (spec_l10Range.calls a0_0 a0_1 a0_2 a0_3 t171 t172 _ A7.out).mono ?_
  rintro e w36 ⟨rfl, hb⟩
  refine ⟨_, rfl, ?_⟩
  replace BK166 := sqb BK166 hb
  replace HB := sqs HB hb
  (try clear hb)
  refine hK.out _ _ sqz (fun hHeld => ?_)
  clear hK K
  refine sqnm ?_
  refine sqo HT_ 6 9 (fun K hK => ?_)
  refine sqG Try.func69 #[.agg #[.int .i64 t171, .int .i64 t172]] ?_
  with_reducible refine (spec_RangeOk.calls t171 t172 false _ A8.out).mono ?_
  rintro e w37 ⟨rfl, hb⟩
  refine ⟨_, rfl, ?_⟩
  replace BK166 := sqb BK166 hb
  replace HB := sqs HB hb
  (try clear hb)
  refine hK.out _ _ sqz (fun hHeld => ?_)
  clear hK K
  refine sqnm ?_
  refine sqp HT_ 7 10 ?_
  refine sqpu HT_ 8 11 ?_
  refine sqpu HT_ 9 12 ?_
  refine sqpu HT_ 10 13 ?_
  refine sqp HT_ 11 14 ?_
  refine sqp HT_ 12 15 ?_
  refine sqpu HT_ 13 16 ?_
  refine sqpu HT_ 14 17 ?_
  refine sqpu HT_ 15 18 ?_
  refine sqpu HT_ 16 19 ?_
  refine sqpu HT_ 17 20 ?_
  refine sqpu HT_ 18 21 ?_
  refine sqpu HT_ 19 22 ?_
  refine sqp HT_ 20 23 ?_
  refine sqp HT_ 21 24 ?_
  refine sqp HT_ 22 2 ?_
  refine done_ (done_of HT_.out (by kernel_rfl)) ?_
  try go_wp2
  go_ret
  exact sqe HB
 subst c9
 have H1 : ((spec_l10Rest.f a0_0 a0_1 a0_2 a0_3).bind fun bt174 => ((spec_RestOk.f bt174.1 bt174.2).bind fun t176 => (if t176 = true then ((spec_l10Range.f a0_0 a0_1 a0_2 a0_3).bind fun bt177 => ((spec_l10Rest.f a0_0 a0_1 a0_2 a0_3).bind fun bt179 => ((spec_ValMake.f k bt177.1 bt177.2 bt179.1 bt179.2).bind fun bt181 => (some (a0_0 == bt181.1 && (a0_1 == bt181.2.1 && (a0_2 == bt181.2.2.1 && (a0_3 == bt181.2.2.2)))))))) else (some false)))) = some r := by rw [if_pos rfl] at H; exact H
 clear H
 have H := H1
 clear H1
 replace H := Option.bind_eq_some_iff.mp H
 obtain ⟨⟨t174, t175⟩, A100, H⟩ := H
 try dsimp only at H
 have A10 := Aside0.mk A100
 clear A100
 replace H := Option.bind_eq_some_iff.mp H
 obtain ⟨t176, A110, H⟩ := H
 try dsimp only at H
 have A11 := Aside0.mk A110
 clear A110
 rcases sqI (t176 = true) with c12 | c12
 ·replace c12 := Bool.eq_false_iff.mpr c12
  subst c12
  have H1 : (some false) = some r := by rw [if_neg (show ¬ (false = true) by decide)] at H; exact H
  clear H
  have H := H1
  clear H1
  obtain rfl := Option.some.inj H
  go_enter Try.func44, Try.ntmps44
  try go_wp2_with (first | ((with_reducible refine gate_dst (N := 1) rfl ?_); refine sqx 1 #[.int .i64 a0_0, .int .i64 a0_1, .int .i64 a0_2, .int .i64 a0_3] 60 ?_; intro gb166 hg w26 hbox hb; have BK166 := Aside0.mk hbox; have GW166 := sqg HB hg; have GE166 := sqg HB hg; replace HB := sqs HB hb; clear hb hbox hg))
  replace BK166 := Aside0.mk (blk_drew BK166.out)
  replace HB := Aside0.mk (below_drew1 HB.out)
  refine start_ (n := 23) (S := fun w' => w'.cell? ⟨gb166, 0, none⟩ = some (.int .i64 a0_0) ∧ w'.cell? ⟨gb166, 1, none⟩ = some (.int .i64 a0_1) ∧ w'.cell? ⟨gb166, 2, none⟩ = some (.int .i64 a0_2) ∧ w'.cell? ⟨gb166, 3, none⟩ = some (.int .i64 a0_3)) (ds := []) #[false, false, false, false, false, false, false, false, false, false, false, false, false, false, false, false, false, false, false, false, false, false, false] (by kernel_rfl) rfl rfl sqz (fun hHeld => ?_); refine with_tabW spec_ValOk.tab1 spec_ValOk.bits1 (fun HT_ HW_ => ?_)
  generalize w26.drew = w27 at BK166 HB hHeld ⊢
  refine sqw HT_ HW_ 0 3 hHeld ?_
  refine sqo HT_ 1 4 (fun K hK => ?_)
  refine sqG Try.func45 #[] ?_
  with_reducible refine (spec_l10None.calls  t167 t168 t169 t170 _ A2.out).mono ?_
  rintro e w28 ⟨rfl, hb⟩
  refine ⟨_, rfl, ?_⟩
  replace BK166 := sqb BK166 hb
  replace HB := sqs HB hb
  (try clear hb)
  refine hK.out _ _ sqz (fun hHeld => ?_)
  clear hK K
  refine sqnm ?_
  refine sqp HT_ 2 5 ?_
  refine sqp HT_ 3 6 ?_
  refine sqw HT_ HW_ 4 7 hHeld ?_
  refine sqo HT_ 5 8 (fun K hK => ?_)
  refine sqG Try.func47 #[.agg #[.int .i64 a0_0, .int .i64 a0_1, .int .i64 a0_2, .int .i64 a0_3]] ?_
  with_reducible refine (spec_l10Range.calls a0_0 a0_1 a0_2 a0_3 t171 t172 _ A7.out).mono ?_
  rintro e w29 ⟨rfl, hb⟩
  refine ⟨_, rfl, ?_⟩
  replace BK166 := sqb BK166 hb
  replace HB := sqs HB hb
  (try clear hb)
  refine hK.out _ _ sqz (fun hHeld => ?_)
  clear hK K
  refine sqnm ?_
  refine sqo HT_ 6 9 (fun K hK => ?_)
  refine sqG Try.func69 #[.agg #[.int .i64 t171, .int .i64 t172]] ?_
  with_reducible refine (spec_RangeOk.calls t171 t172 true _ A8.out).mono ?_
  rintro e w30 ⟨rfl, hb⟩
  refine ⟨_, rfl, ?_⟩
  replace BK166 := sqb BK166 hb
  replace HB := sqs HB hb
  (try clear hb)
  refine hK.out _ _ sqz (fun hHeld => ?_)
  clear hK K
  refine sqnm ?_
  refine sqp HT_ 7 10 ?_
  refine sqw HT_ HW_ 8 11 hHeld ?_
  refine sqo HT_ 9 12 (fun K hK => ?_)
  refine sqG Try.func49 #[.agg #[.int .i64 a0_0, .int .i64 a0_1, .int .i64 a0_2, .int .i64 a0_3]] ?_
  with_reducible refine (spec_l10Rest.calls a0_0 a0_1 a0_2 a0_3 t174 t175 _ A10.out).mono ?_
  rintro e w31 ⟨rfl, hb⟩
  refine ⟨_, rfl, ?_⟩
  replace BK166 := sqb BK166 hb
  replace HB := sqs HB hb
  (try clear hb)
  refine hK.out _ _ sqz (fun hHeld => ?_)
  clear hK K
  refine sqnm ?_
  refine sqo HT_ 10 13 (fun K hK => ?_)
  refine sqG Try.func70 #[.agg #[.int .i64 t174, .int .i64 t175]] ?_
  with_reducible refine (spec_RestOk.calls t174 t175 false _ A11.out).mono ?_
  rintro e w32 ⟨rfl, hb⟩
  refine ⟨_, rfl, ?_⟩
  replace BK166 := sqb BK166 hb
  replace HB := sqs HB hb
  (try clear hb)
  refine hK.out _ _ sqz (fun hHeld => ?_)
  clear hK K
  refine sqnm ?_
  refine sqp HT_ 11 14 ?_
  refine sqp HT_ 12 15 ?_
  refine sqpu HT_ 13 16 ?_
  refine sqpu HT_ 14 17 ?_
  refine sqpu HT_ 15 18 ?_
  refine sqpu HT_ 16 19 ?_
  refine sqpu HT_ 17 20 ?_
  refine sqpu HT_ 18 21 ?_
  refine sqpu HT_ 19 22 ?_
  refine sqp HT_ 20 23 ?_
  refine sqp HT_ 21 24 ?_
  refine sqp HT_ 22 2 ?_
  refine done_ (done_of HT_.out (by kernel_rfl)) ?_
  try go_wp2
  go_ret
  exact sqe HB
 subst c12
 have H1 : ((spec_l10Range.f a0_0 a0_1 a0_2 a0_3).bind fun bt177 => ((spec_l10Rest.f a0_0 a0_1 a0_2 a0_3).bind fun bt179 => ((spec_ValMake.f k bt177.1 bt177.2 bt179.1 bt179.2).bind fun bt181 => (some (a0_0 == bt181.1 && (a0_1 == bt181.2.1 && (a0_2 == bt181.2.2.1 && (a0_3 == bt181.2.2.2)))))))) = some r := by rw [if_pos rfl] at H; exact H
 clear H
 have H := H1
 clear H1
 replace H := Option.bind_eq_some_iff.mp H
 obtain ⟨⟨t177, t178⟩, A130, H⟩ := H
 try dsimp only at H
 have A13 := Aside0.mk A130
 clear A130
 replace H := Option.bind_eq_some_iff.mp H
 obtain ⟨⟨t179, t180⟩, A140, H⟩ := H
 try dsimp only at H
 have A14 := Aside0.mk A140
 clear A140
 replace H := Option.bind_eq_some_iff.mp H
 obtain ⟨⟨t181, t182, t183, t184⟩, A150, H⟩ := H
 try dsimp only at H
 have A15 := Aside0.mk A150
 clear A150
 obtain rfl := Option.some.inj H
 go_enter Try.func44, Try.ntmps44
 try go_wp2_with (first | ((with_reducible refine gate_dst (N := 1) rfl ?_); refine sqx 1 #[.int .i64 a0_0, .int .i64 a0_1, .int .i64 a0_2, .int .i64 a0_3] 60 ?_; intro gb166 hg w16 hbox hb; have BK166 := Aside0.mk hbox; have GW166 := sqg HB hg; have GE166 := sqg HB hg; replace HB := sqs HB hb; clear hb hbox hg))
 replace BK166 := Aside0.mk (blk_drew BK166.out)
 replace HB := Aside0.mk (below_drew1 HB.out)
 refine start_ (n := 23) (S := fun w' => w'.cell? ⟨gb166, 0, none⟩ = some (.int .i64 a0_0) ∧ w'.cell? ⟨gb166, 1, none⟩ = some (.int .i64 a0_1) ∧ w'.cell? ⟨gb166, 2, none⟩ = some (.int .i64 a0_2) ∧ w'.cell? ⟨gb166, 3, none⟩ = some (.int .i64 a0_3)) (ds := []) #[false, false, false, false, false, false, false, false, false, false, false, false, false, false, false, false, false, false, false, false, false, false, false] (by kernel_rfl) rfl rfl sqz (fun hHeld => ?_); refine with_tabW spec_ValOk.tab1 spec_ValOk.bits1 (fun HT_ HW_ => ?_)
 generalize w16.drew = w17 at BK166 HB hHeld ⊢
 refine sqw HT_ HW_ 0 3 hHeld ?_
 refine sqo HT_ 1 4 (fun K hK => ?_)
 refine sqG Try.func45 #[] ?_
 with_reducible refine (spec_l10None.calls  t167 t168 t169 t170 _ A2.out).mono ?_
 rintro e w18 ⟨rfl, hb⟩
 refine ⟨_, rfl, ?_⟩
 replace BK166 := sqb BK166 hb
 replace HB := sqs HB hb
 (try clear hb)
 refine hK.out _ _ sqz (fun hHeld => ?_)
 clear hK K
 refine sqnm ?_
 refine sqp HT_ 2 5 ?_
 refine sqp HT_ 3 6 ?_
 refine sqw HT_ HW_ 4 7 hHeld ?_
 refine sqo HT_ 5 8 (fun K hK => ?_)
 refine sqG Try.func47 #[.agg #[.int .i64 a0_0, .int .i64 a0_1, .int .i64 a0_2, .int .i64 a0_3]] ?_
 with_reducible refine (spec_l10Range.calls a0_0 a0_1 a0_2 a0_3 t171 t172 _ A7.out).mono ?_
 rintro e w19 ⟨rfl, hb⟩
 refine ⟨_, rfl, ?_⟩
 replace BK166 := sqb BK166 hb
 replace HB := sqs HB hb
 (try clear hb)
 refine hK.out _ _ sqz (fun hHeld => ?_)
 clear hK K
 refine sqnm ?_
 refine sqo HT_ 6 9 (fun K hK => ?_)
 refine sqG Try.func69 #[.agg #[.int .i64 t171, .int .i64 t172]] ?_
 with_reducible refine (spec_RangeOk.calls t171 t172 true _ A8.out).mono ?_
 rintro e w20 ⟨rfl, hb⟩
 refine ⟨_, rfl, ?_⟩
 replace BK166 := sqb BK166 hb
 replace HB := sqs HB hb
 (try clear hb)
 refine hK.out _ _ sqz (fun hHeld => ?_)
 clear hK K
 refine sqnm ?_
 refine sqp HT_ 7 10 ?_
 refine sqw HT_ HW_ 8 11 hHeld ?_
 refine sqo HT_ 9 12 (fun K hK => ?_)
 refine sqG Try.func49 #[.agg #[.int .i64 a0_0, .int .i64 a0_1, .int .i64 a0_2, .int .i64 a0_3]] ?_
 with_reducible refine (spec_l10Rest.calls a0_0 a0_1 a0_2 a0_3 t174 t175 _ A10.out).mono ?_
 rintro e w21 ⟨rfl, hb⟩
 refine ⟨_, rfl, ?_⟩
 replace BK166 := sqb BK166 hb
 replace HB := sqs HB hb
 (try clear hb)
 refine hK.out _ _ sqz (fun hHeld => ?_)
 clear hK K
 refine sqnm ?_
 refine sqo HT_ 10 13 (fun K hK => ?_)
 refine sqG Try.func70 #[.agg #[.int .i64 t174, .int .i64 t175]] ?_
 with_reducible refine (spec_RestOk.calls t174 t175 true _ A11.out).mono ?_
 rintro e w22 ⟨rfl, hb⟩
 refine ⟨_, rfl, ?_⟩
 replace BK166 := sqb BK166 hb
 replace HB := sqs HB hb
 (try clear hb)
 refine hK.out _ _ sqz (fun hHeld => ?_)
 clear hK K
 refine sqnm ?_
 refine sqp HT_ 11 14 ?_
 refine sqp HT_ 12 15 ?_
 refine sqw HT_ HW_ 13 16 hHeld ?_
 refine sqw HT_ HW_ 14 17 hHeld ?_
 refine sqw HT_ HW_ 16 19 hHeld ?_
 refine sqo HT_ 15 18 (fun K hK => ?_)
 refine sqG Try.func47 #[.agg #[.int .i64 a0_0, .int .i64 a0_1, .int .i64 a0_2, .int .i64 a0_3]] ?_
 with_reducible refine (spec_l10Range.calls a0_0 a0_1 a0_2 a0_3 t177 t178 _ A13.out).mono ?_
 rintro e w23 ⟨rfl, hb⟩
 refine ⟨_, rfl, ?_⟩
 replace BK166 := sqb BK166 hb
 replace HB := sqs HB hb
 (try clear hb)
 refine hK.out _ _ sqz (fun hHeld => ?_)
 clear hK K
 refine sqnm ?_
 refine sqo HT_ 17 20 (fun K hK => ?_)
 refine sqG Try.func49 #[.agg #[.int .i64 a0_0, .int .i64 a0_1, .int .i64 a0_2, .int .i64 a0_3]] ?_
 with_reducible refine (spec_l10Rest.calls a0_0 a0_1 a0_2 a0_3 t179 t180 _ A14.out).mono ?_
 rintro e w24 ⟨rfl, hb⟩
 refine ⟨_, rfl, ?_⟩
 replace BK166 := sqb BK166 hb
 replace HB := sqs HB hb
 (try clear hb)
 refine hK.out _ _ sqz (fun hHeld => ?_)
 clear hK K
 refine sqnm ?_
 refine sqo HT_ 18 21 (fun K hK => ?_)
 refine sqG Try.func71 #[.agg #[.int .i64 t177, .int .i64 t178], .agg #[.int .i64 t179, .int .i64 t180]] ?_
 with_reducible refine (spec_ValMake.calls k t177 t178 t179 t180 t181 t182 t183 t184 _ A15.out).mono ?_
 rintro e w25 ⟨rfl, hb⟩
 refine ⟨_, rfl, ?_⟩
 replace BK166 := sqb BK166 hb
 replace HB := sqs HB hb
 (try clear hb)
 refine hK.out _ _ sqz (fun hHeld => ?_)
 clear hK K
 refine sqnm ?_
 refine sqp HT_ 19 22 ?_
 refine sqp HT_ 20 23 ?_
 refine sqp HT_ 21 24 ?_
 refine sqp HT_ 22 2 ?_
 refine done_ (done_of HT_.out (by kernel_rfl)) ?_
 try go_wp2
 go_ret
 exact sqe HB

end Go.Proofs.Ytnmgckdgmplddaa.PFnExactAbsHas
