/- Functions of the program as plain Lean functions, and that calls of them come to what these tell. Conditions: those in each law. -/
import Derived.Test.YtkekcenlleebeaaSq
import Derived.Test.YtkekcenlleebeaaDFnExactAbsIn
import Derived.Test.YtkekcenlleebeaaQFnExactAbsInx0
import Derived.Test.YtkekcenlleebeaaQFnExactAbsInx3
import Derived.Test.YtkekcenlleebeaaQFnExactAbsInx8
import Derived.Test.YtkekcenlleebeaaQFnExactAbsInx11
import Derived.Test.YtkekcenlleebeaaQFnExactAbsInx12
import Derived.Test.YtkekcenlleebeaaQFnExactAbsInx16
namespace Go.Proofs.Ytkekcenlleebeaa.PFnExactAbsIn
open Go.RowKit Go.Proofs.Ytkekcenlleebeaa.Sq Go.Proofs.YtkekcenlleebeaaW.PrintWords Go.Proofs.YtkekcenlleebeaaW.PrintLast Go.Proofs.YtkekcenlleebeaaW.PrintMore
attribute [local go_sem] max2_int min2_int max_two min_two max_three min_three max_four min_four   -- for this text's walks alone
set_option linter.unusedVariables false
set_option linter.unusedSimpArgs false

attribute [local go_sem high] eqA30
/-! ### spec_ValIn: function 209 -/
def spec_ValIn.T5 : Bool × List (List Nat × List Nat) := (true, [([], []), ([], []), ([0, 1], [0, 1]), ([2, 1], [2]), ([3], [3]), ([4, 3, 3], [3, 4]), ([3], [3]), ([6, 5, 3], [3, 6]), ([5, 7, 7, 3], [3, 5, 7]), ([3, 8], [3, 8]), ([9, 8], [9]), ([10], [10]), ([11, 10, 10], [10, 11]), ([10], [10]), ([13, 12, 10], [10, 13]), ([12, 14, 14, 10], [10, 12, 14]), ([10, 15], [10, 15]), ([16, 15, 0, 1, 2, 3, 4, 5, 6, 7, 8, 9, 10, 11, 12, 13, 14, 15, 16], [16])])
def spec_ValIn.B5 : List Nat := [0, 0, 3, 7, 15, 31, 15, 127, 255, 511, 1023, 2047, 4095, 2047, 16383, 32767, 65535, 131071]
theorem spec_ValIn.tab5 : rtab .any (opsOf Try.f209 5) = spec_ValIn.T5 := by kernel_rfl
theorem spec_ValIn.bits5 : waitsOk spec_ValIn.T5.2 spec_ValIn.B5 = true := by kernel_rfl
set_option maxHeartbeats 8000000 in
set_option maxRecDepth 100000 in
theorem spec_ValIn.calls (k : Nat) (a0_0 : Int) (a0_1 : Int) (a0_2 : Int) (a0_3 : Int) (a1_0 : Int) (a1_1 : Int) (a1_2 : Int) (a1_3 : Int) (r : Bool) (w : World) (h : spec_ValIn.f k a0_0 a0_1 a0_2 a0_3 a1_0 a1_1 a1_2 a1_3 = some r) :
  Calls Try.prog 209 #[.agg #[.int .i64 a0_0, .int .i64 a0_1, .int .i64 a0_2, .int .i64 a0_3], .agg #[.int .i64 a1_0, .int .i64 a1_1, .int .i64 a1_2, .int .i64 a1_3]] w fun e w' => e = .returned (.bool r) ∧ Below w.heap.size w w' := by
 have hu30 := Try.underlying30
 have HB := Aside0.mk (Below.refl w.heap.size w)
 have H : ((spec_ValOk.f k a0_0 a0_1 a0_2 a0_3).bind fun t310 => (if t310 = true then ((spec_ValOk.f k a1_0 a1_1 a1_2 a1_3).bind fun t311 => (spec_ValIn.j0 k (!t311) a0_0 a0_1 a0_2 a0_3 a1_0 a1_1 a1_2 a1_3)) else (spec_ValIn.j0 k true a0_0 a0_1 a0_2 a0_3 a1_0 a1_1 a1_2 a1_3))) = some r := h
 clear h
 have HC3 := Aside0.mk H
 clear H
 go_enter Try.func209, Try.ntmps209
 go_upto_region 1 with (first | ((with_reducible refine gate_dst (N := 2) rfl ?_); refine sqx 2 #[.int .i64 a0_0, .int .i64 a0_1, .int .i64 a0_2, .int .i64 a0_3] 30 ?_; intro gb308 hg w4 hbox hb; have BK308 := Aside0.mk hbox; have GW308 := sqg HB hg; have GE308 := sqg HB hg; replace HB := sqs HB hb; clear hb hbox hg) | ((with_reducible refine gate_dst (N := 3) rfl ?_); refine sqx 3 #[.int .i64 a1_0, .int .i64 a1_1, .int .i64 a1_2, .int .i64 a1_3] 30 ?_; intro gb309 hg w5 hbox hb; have BK309 := Aside0.mk hbox; have GW309 := sqg HB hg; have GE309 := sqg HB hg; have NB308_309 := sqn BK308 hg; have NB309_308 := sqm BK308 hg; replace BK308 := sqb BK308 hb; replace HB := sqs HB hb; clear hb hbox hg))
 (try simp only [Act.put, List.setIfInBounds_toArray, List.set_cons_zero, List.set_cons_succ])
 go_cut [12] (fun v12 wc => ∃ (kq : Nat) (x12_2 : Bool), v12 = .bool x12_2 ∧ Aside0 (spec_ValIn.j0 kq x12_2 a0_0 a0_1 a0_2 a0_3 a1_0 a1_1 a1_2 a1_3 = some r) ∧ Aside0 (kq ≤ k) ∧ Aside0 (wc.heap[gb308]? = some (.cells #[.int .i64 a0_0, .int .i64 a0_1, .int .i64 a0_2, .int .i64 a0_3] 30 (0, 0))) ∧ Aside0 (wc.heap[gb309]? = some (.cells #[.int .i64 a1_0, .int .i64 a1_1, .int .i64 a1_2, .int .i64 a1_3] 30 (0, 0))) ∧ Aside0 (Below w.heap.size w wc))
 case first =>
  have H := HC3.out
  clear HC3
  replace H := sqbi H
  obtain ⟨t310, A6, H⟩ := H
  replace H : (if t310 = true then ((spec_ValOk.f k a1_0 a1_1 a1_2 a1_3).bind fun t311 => (spec_ValIn.j0 k (!t311) a0_0 a0_1 a0_2 a0_3 a1_0 a1_1 a1_2 a1_3)) else (spec_ValIn.j0 k true a0_0 a0_1 a0_2 a0_3 a1_0 a1_1 a1_2 a1_3)) = some r := H
  rcases sqI (t310 = true) with c7 | c7
  ·replace c7 := Bool.eq_false_iff.mpr c7
   subst c7
   have H1 : (spec_ValIn.j0 k true a0_0 a0_1 a0_2 a0_3 a1_0 a1_1 a1_2 a1_3) = some r := by rw [if_neg (show ¬ (false = true) by decide)] at H; exact H
   clear H
   have H := H1
   clear H1
   have H' := Aside0.mk H
   clear H
   have hnb14 := NB308_309.out
   have hnc14 := NB309_308.out
   obtain ⟨hcz15_0, hcz15_1, hcz15_2, hcz15_3, hfz15_0, hfz15_1, hfz15_2, hfz15_3⟩ := sqc4 BK308
   go_wp2_with (first | ((with_reducible refine gate_callee (f := 80) rfl ?_); refine sqL (some 6) Try.func80 #[.agg #[.int .i64 a0_0, .int .i64 a0_1, .int .i64 a0_2, .int .i64 a0_3]] ?_; (with_reducible refine (spec_ValOk.calls k a0_0 a0_1 a0_2 a0_3 false _ A6.out).mono ?_); rintro e w16 ⟨rfl, hb⟩; refine ⟨_, rfl, ?_⟩; refine sqM2 BK308 BK309 hb ?_; clear BK308 BK309; intro BK308 BK309; replace HB := sqs HB hb; (try clear hb)))
   go_meet
   case rel => exact ⟨_, (true), (by first | rfl | (simp; done) | (simp [*]; done)), H', ⟨by first | omega | exact Nat.le_refl _⟩, sqk BK308, sqk BK309, sqh HB⟩
  subst c7
  have H1 : ((spec_ValOk.f k a1_0 a1_1 a1_2 a1_3).bind fun t311 => (spec_ValIn.j0 k (!t311) a0_0 a0_1 a0_2 a0_3 a1_0 a1_1 a1_2 a1_3)) = some r := by rw [if_pos rfl] at H; exact H
  clear H
  have H := H1
  clear H1
  replace H := sqbi H
  obtain ⟨t311, A8, H⟩ := H
  replace H : (spec_ValIn.j0 k (!t311) a0_0 a0_1 a0_2 a0_3 a1_0 a1_1 a1_2 a1_3) = some r := H
  have H' := Aside0.mk H
  clear H
  have hnb9 := NB308_309.out
  have hnc9 := NB309_308.out
  obtain ⟨hcz10_0, hcz10_1, hcz10_2, hcz10_3, hfz10_0, hfz10_1, hfz10_2, hfz10_3⟩ := sqc4 BK308
  go_wp2_with (first | ((with_reducible refine gate_callee (f := 80) rfl ?_); refine sqL (some 6) Try.func80 #[.agg #[.int .i64 a0_0, .int .i64 a0_1, .int .i64 a0_2, .int .i64 a0_3]] ?_; (with_reducible refine (spec_ValOk.calls k a0_0 a0_1 a0_2 a0_3 true _ A6.out).mono ?_); rintro e w11 ⟨rfl, hb⟩; refine ⟨_, rfl, ?_⟩; refine sqM2 BK308 BK309 hb ?_; clear BK308 BK309; intro BK308 BK309; replace HB := sqs HB hb; (try clear hb); obtain ⟨hcz12_0, hcz12_1, hcz12_2, hcz12_3, hfz12_0, hfz12_1, hfz12_2, hfz12_3⟩ := sqc4 BK309) | (go_at_call 80; (with_reducible refine (spec_ValOk.calls k a1_0 a1_1 a1_2 a1_3 t311 _ A8.out).mono ?_); rintro e w13 ⟨rfl, hb⟩; refine sqM2 BK308 BK309 hb ?_; clear BK308 BK309; intro BK308 BK309; replace HB := sqs HB hb; (try clear hb)))
  go_meet
  case rel => exact ⟨_, (!t311), (by first | rfl | (simp; done) | (simp [*]; done)), H', ⟨by first | omega | exact Nat.le_refl _⟩, sqk BK308, sqk BK309, sqh HB⟩
 case rest =>
  clear HC3
  obtain ⟨kq, x12_2, rfl, HA, HJ2, BK308, BK309, HB⟩ := hcut
  cases kq with
  | zero => exact absurd HA.out (by simp [spec_ValIn.j0])
  | succ kj2 =>
   have H := HA.out
   clear HA
   simp only [spec_ValIn.j0] at H
   by_cases c17 : x12_2 = true
   ·subst c17
    have H1 : (some false) = some r := by rw [if_pos rfl] at H; exact H
    clear H
    have H := H1
    clear H1
    obtain rfl := Option.some.inj H
    go_wp2
    go_ret
    exact sqe HB
   replace c17 := Bool.eq_false_iff.mpr c17
   subst c17
   have H1 : ((spec_l10None.f).bind fun bt312 => (if (a0_0 == bt312.1 && (a0_1 == bt312.2.1 && (a0_2 == bt312.2.2.1 && (a0_3 == bt312.2.2.2)))) = true then (some true) else ((spec_l10None.f).bind fun bt316 => (if (!(a1_0 == bt316.1) || (!(a1_1 == bt316.2.1) || (!(a1_2 == bt316.2.2.1) || (!(a1_3 == bt316.2.2.2))))) = true then ((spec_l10Range.f a0_0 a0_1 a0_2 a0_3).bind fun bt320 => ((spec_l10Range.f a1_0 a1_1 a1_2 a1_3).bind fun bt322 => ((spec_RangeIn.f bt320.1 bt320.2 bt322.1 bt322.2).bind fun t324 => (if t324 = true then ((spec_l10Rest.f a0_0 a0_1 a0_2 a0_3).bind fun bt325 => ((spec_l10Rest.f a1_0 a1_1 a1_2 a1_3).bind fun bt327 => ((spec_RestIn.f kj2 bt325.1 bt325.2 bt327.1 bt327.2).bind fun t329 => (some t329)))) else (some false))))) else (some false))))) = some r := by rw [if_neg (show ¬ (false = true) by decide)] at H; exact H
   clear H
   have H := H1
   clear H1
   replace H := sqbi H
   obtain ⟨⟨t312, t313, t314, t315⟩, A18, H⟩ := H
   replace H : (if (a0_0 == t312 && (a0_1 == t313 && (a0_2 == t314 && (a0_3 == t315)))) = true then (some true) else ((spec_l10None.f).bind fun bt316 => (if (!(a1_0 == bt316.1) || (!(a1_1 == bt316.2.1) || (!(a1_2 == bt316.2.2.1) || (!(a1_3 == bt316.2.2.2))))) = true then ((spec_l10Range.f a0_0 a0_1 a0_2 a0_3).bind fun bt320 => ((spec_l10Range.f a1_0 a1_1 a1_2 a1_3).bind fun bt322 => ((spec_RangeIn.f bt320.1 bt320.2 bt322.1 bt322.2).bind fun t324 => (if t324 = true then ((spec_l10Rest.f a0_0 a0_1 a0_2 a0_3).bind fun bt325 => ((spec_l10Rest.f a1_0 a1_1 a1_2 a1_3).bind fun bt327 => ((spec_RestIn.f kj2 bt325.1 bt325.2 bt327.1 bt327.2).bind fun t329 => (some t329)))) else (some false))))) else (some false)))) = some r := H
   replace H := sqj H
   rcases H with ⟨c19, H⟩ | ⟨c19, H⟩
   ·have c19b0 : (a0_0 == t312 && (a0_1 == t313 && (a0_2 == t314 && (a0_3 == t315)))) = true := c19
    (try (have c19b1 : decide (a0_0 = t312 && (a0_1 == t313 && (a0_2 == t314 && (a0_3 == t315)))) = true := by simpa using c19))
    (try (have c19b2 : (a0_0 == t312 && (a0_1 == t313 && (a0_2 == t314 && (a0_3 == t315)))) = true := by simpa using c19))
    clear c19
    obtain rfl := Option.some.inj H
    try go_wp2
    replace BK308 := Aside0.mk (blk_drew BK308.out)
    replace BK309 := Aside0.mk (blk_drew BK309.out)
    replace HB := Aside0.mk (below_drew1 HB.out)
    refine start_ (n := 3) (S := fun w' => w'.cell? ⟨gb308, 0, none⟩ = some (.int .i64 a0_0) ∧ w'.cell? ⟨gb308, 1, none⟩ = some (.int .i64 a0_1) ∧ w'.cell? ⟨gb308, 2, none⟩ = some (.int .i64 a0_2) ∧ w'.cell? ⟨gb308, 3, none⟩ = some (.int .i64 a0_3)) (ds := []) #[false, false, false] (by kernel_rfl) rfl rfl sqz (fun hHeld => ?_)
    generalize wc.drew = w20 at BK308 BK309 HB hHeld ⊢
    refine take_ (i := 0) (N := some 13) (v := ?_) (a' := ?_) #[true, false, false] rfl rfl (by kernel_rfl) (fun _ _ _ h => h) (Or.inl ⟨by rfl, ?_⟩) hHeld ?_ ?_
    rotate_left
    ·rintro w' ⟨s0, s1, s2, s3⟩
     go_simp
     with_reducible rfl
    rotate_left
    ·simp only [Act.put, List.setIfInBounds_toArray, List.set_cons_zero, List.set_cons_succ, i64_w, i32_w]
     rfl
    refine one_ (i := 1) (N := some 14) #[true, true, false] rfl rfl (by kernel_rfl) (by decide) (fun K hK => ?_)
    refine sqG Try.func100 #[] ?_
    with_reducible refine (spec_l10None.calls  t312 t313 t314 t315 _ A18.out).mono ?_
    rintro e w21 ⟨rfl, hb⟩
    refine ⟨_, rfl, ?_⟩
    refine sqM2 BK308 BK309 hb ?_; clear BK308 BK309; intro BK308 BK309
    replace HB := sqs HB hb
    (try clear hb)
    refine hK.out _ _ sqz (fun hHeld => ?_)
    clear hK K
    refine sqnm ?_
    refine pure_ (i := 2) (N := some 15) (v := ?_) (a' := ?_) #[true, true, true] rfl rfl (by kernel_rfl) (fun _ _ _ h => h) (Or.inl ⟨by rfl, ?_⟩) ?_ ?_
    rotate_left
    ·intro w'
     go_simp
     with_reducible rfl
    rotate_left
    ·simp only [Act.put, List.setIfInBounds_toArray, List.set_cons_zero, List.set_cons_succ, i64_w, i32_w]
     rfl
    refine done_ (by kernel_rfl) ?_
    try go_wp2
    go_ret
    exact sqe HB
   have c19b0 : (a0_0 == t312 && (a0_1 == t313 && (a0_2 == t314 && (a0_3 == t315)))) = false := by simpa using c19
   (try (have c19b1 : decide (a0_0 = t312 && (a0_1 == t313 && (a0_2 == t314 && (a0_3 == t315)))) = false := by simpa using c19))
   (try (have c19b2 : (a0_0 == t312 && (a0_1 == t313 && (a0_2 == t314 && (a0_3 == t315)))) = false := by simpa using c19))
   (try (have c19b3 : ¬ (a0_0 = t312 && (a0_1 == t313 && (a0_2 == t314 && (a0_3 == t315)))) := by simpa using c19))
   clear c19
   replace H := sqbi H
   obtain ⟨⟨t316, t317, t318, t319⟩, A22, H⟩ := H
   replace H : (if (!(a1_0 == t316) || (!(a1_1 == t317) || (!(a1_2 == t318) || (!(a1_3 == t319))))) = true then ((spec_l10Range.f a0_0 a0_1 a0_2 a0_3).bind fun bt320 => ((spec_l10Range.f a1_0 a1_1 a1_2 a1_3).bind fun bt322 => ((spec_RangeIn.f bt320.1 bt320.2 bt322.1 bt322.2).bind fun t324 => (if t324 = true then ((spec_l10Rest.f a0_0 a0_1 a0_2 a0_3).bind fun bt325 => ((spec_l10Rest.f a1_0 a1_1 a1_2 a1_3).bind fun bt327 => ((spec_RestIn.f kj2 bt325.1 bt325.2 bt327.1 bt327.2).bind fun t329 => (some t329)))) else (some false))))) else (some false)) = some r := H
   replace H := sqi H
   rcases H with ⟨c23, H⟩ | ⟨c23, H⟩
   ·have c23b0 : (!(a1_0 == t316) || (!(a1_1 == t317) || (!(a1_2 == t318) || (!(a1_3 == t319))))) = false := by simpa using c23
    clear c23
    obtain rfl := Option.some.inj H
    try go_wp2
    replace BK308 := Aside0.mk (blk_drew BK308.out)
    replace BK309 := Aside0.mk (blk_drew BK309.out)
    replace HB := Aside0.mk (below_drew1 HB.out)
    refine start_ (n := 3) (S := fun w' => w'.cell? ⟨gb308, 0, none⟩ = some (.int .i64 a0_0) ∧ w'.cell? ⟨gb308, 1, none⟩ = some (.int .i64 a0_1) ∧ w'.cell? ⟨gb308, 2, none⟩ = some (.int .i64 a0_2) ∧ w'.cell? ⟨gb308, 3, none⟩ = some (.int .i64 a0_3)) (ds := []) #[false, false, false] (by kernel_rfl) rfl rfl sqz (fun hHeld => ?_)
    generalize wc.drew = w48 at BK308 BK309 HB hHeld ⊢
    refine take_ (i := 0) (N := some 13) (v := ?_) (a' := ?_) #[true, false, false] rfl rfl (by kernel_rfl) (fun _ _ _ h => h) (Or.inl ⟨by rfl, ?_⟩) hHeld ?_ ?_
    rotate_left
    ·rintro w' ⟨s0, s1, s2, s3⟩
     go_simp
     with_reducible rfl
    rotate_left
    ·simp only [Act.put, List.setIfInBounds_toArray, List.set_cons_zero, List.set_cons_succ, i64_w, i32_w]
     rfl
    refine one_ (i := 1) (N := some 14) #[true, true, false] rfl rfl (by kernel_rfl) (by decide) (fun K hK => ?_)
    refine sqG Try.func100 #[] ?_
    with_reducible refine (spec_l10None.calls  t312 t313 t314 t315 _ A18.out).mono ?_
    rintro e w49 ⟨rfl, hb⟩
    refine ⟨_, rfl, ?_⟩
    refine sqM2 BK308 BK309 hb ?_; clear BK308 BK309; intro BK308 BK309
    replace HB := sqs HB hb
    (try clear hb)
    refine hK.out _ _ sqz (fun hHeld => ?_)
    clear hK K
    refine sqnm ?_
    refine pure_ (i := 2) (N := some 15) (v := ?_) (a' := ?_) #[true, true, true] rfl rfl (by kernel_rfl) (fun _ _ _ h => h) (Or.inl ⟨by rfl, ?_⟩) ?_ ?_
    rotate_left
    ·intro w'
     go_simp
     with_reducible rfl
    rotate_left
    ·simp only [Act.put, List.setIfInBounds_toArray, List.set_cons_zero, List.set_cons_succ, i64_w, i32_w]
     rfl
    refine done_ (by kernel_rfl) ?_
    try go_wp2
    replace BK308 := Aside0.mk (blk_drew BK308.out)
    replace BK309 := Aside0.mk (blk_drew BK309.out)
    replace HB := Aside0.mk (below_drew1 HB.out)
    refine start_ (n := 18) (S := fun w' => w'.cell? ⟨gb309, 0, none⟩ = some (.int .i64 a1_0) ∧ w'.cell? ⟨gb309, 1, none⟩ = some (.int .i64 a1_1) ∧ w'.cell? ⟨gb309, 2, none⟩ = some (.int .i64 a1_2) ∧ w'.cell? ⟨gb309, 3, none⟩ = some (.int .i64 a1_3)) (ds := []) #[false, false, false, false, false, false, false, false, false, false, false, false, false, false, false, false, false, false] (by kernel_rfl) rfl rfl sqz (fun hHeld => ?_); refine with_tabW spec_ValIn.tab5 spec_ValIn.bits5 (fun HT_ HW_ => ?_)
    generalize w49.drew = w50 at BK308 BK309 HB hHeld ⊢
    refine sqw HT_ HW_ 0 16 hHeld ?_
    refine sqo HT_ 1 17 (fun K hK => ?_)
    refine sqG Try.func100 #[] ?_
    with_reducible refine (spec_l10None.calls  t316 t317 t318 t319 _ A22.out).mono ?_
    rintro e w51 ⟨rfl, hb⟩
    refine ⟨_, rfl, ?_⟩
    refine sqM2 BK308 BK309 hb ?_; clear BK308 BK309; intro BK308 BK309
    replace HB := sqs HB hb
    (try clear hb)
    refine hK.out _ _ sqz (fun hHeld => ?_)
    clear hK K
    refine sqnm ?_
    refine sqp HT_ 2 18 ?_
    refine sqp HT_ 3 19 ?_
    refine sqpu HT_ 4 20 ?_
    refine sqpu HT_ 5 21 ?_
    refine sqpu HT_ 6 22 ?_
    refine sqpu HT_ 7 23 ?_
    refine sqpu HT_ 8 24 ?_
    refine sqp HT_ 9 25 ?_
    refine sqp HT_ 10 26 ?_
    refine sqpu HT_ 11 27 ?_
    refine sqpu HT_ 12 28 ?_
    refine sqpu HT_ 13 29 ?_
    refine sqpu HT_ 14 30 ?_
    refine sqpu HT_ 15 31 ?_
    refine sqp HT_ 16 32 ?_
    refine sqp HT_ 17 4 ?_
    refine done_ (done_of HT_.out (by kernel_rfl)) ?_
    try go_wp2
    go_ret
    exact sqe HB
   have c23b0 : (!(a1_0 == t316) || (!(a1_1 == t317) || (!(a1_2 == t318) || (!(a1_3 == t319))))) = true := c23
   clear c23
   replace H := sqbi H
   obtain ⟨⟨t320, t321⟩, A24, H⟩ := H
   replace H : ((spec_l10Range.f a1_0 a1_1 a1_2 a1_3).bind fun bt322 => ((spec_RangeIn.f t320 t321 bt322.1 bt322.2).bind fun t324 => (if t324 = true then ((spec_l10Rest.f a0_0 a0_1 a0_2 a0_3).bind fun bt325 => ((spec_l10Rest.f a1_0 a1_1 a1_2 a1_3).bind fun bt327 => ((spec_RestIn.f kj2 bt325.1 bt325.2 bt327.1 bt327.2).bind fun t329 => (some t329)))) else (some false)))) = some r := H
   replace H := sqbi H
   obtain ⟨⟨t322, t323⟩, A25, H⟩ := H
   replace H : ((spec_RangeIn.f t320 t321 t322 t323).bind fun t324 => (if t324 = true then ((spec_l10Rest.f a0_0 a0_1 a0_2 a0_3).bind fun bt325 => ((spec_l10Rest.f a1_0 a1_1 a1_2 a1_3).bind fun bt327 => ((spec_RestIn.f kj2 bt325.1 bt325.2 bt327.1 bt327.2).bind fun t329 => (some t329)))) else (some false))) = some r := H
   replace H := sqbi H
   obtain ⟨t324, A26, H⟩ := H
   replace H : (if t324 = true then ((spec_l10Rest.f a0_0 a0_1 a0_2 a0_3).bind fun bt325 => ((spec_l10Rest.f a1_0 a1_1 a1_2 a1_3).bind fun bt327 => ((spec_RestIn.f kj2 bt325.1 bt325.2 bt327.1 bt327.2).bind fun t329 => (some t329)))) else (some false)) = some r := H
   rcases sqI (t324 = true) with c27 | c27
   ·replace c27 := Bool.eq_false_iff.mpr c27
    subst c27
    have H1 : (some false) = some r := by rw [if_neg (show ¬ (false = true) by decide)] at H; exact H
    clear H
    have H := H1
    clear H1
    obtain rfl := Option.some.inj H
    try go_wp2
    replace BK308 := Aside0.mk (blk_drew BK308.out)
    replace BK309 := Aside0.mk (blk_drew BK309.out)
    replace HB := Aside0.mk (below_drew1 HB.out)
    refine start_ (n := 3) (S := fun w' => w'.cell? ⟨gb308, 0, none⟩ = some (.int .i64 a0_0) ∧ w'.cell? ⟨gb308, 1, none⟩ = some (.int .i64 a0_1) ∧ w'.cell? ⟨gb308, 2, none⟩ = some (.int .i64 a0_2) ∧ w'.cell? ⟨gb308, 3, none⟩ = some (.int .i64 a0_3)) (ds := []) #[false, false, false] (by kernel_rfl) rfl rfl sqz (fun hHeld => ?_)
    generalize wc.drew = w41 at BK308 BK309 HB hHeld ⊢
    refine take_ (i := 0) (N := some 13) (v := ?_) (a' := ?_) #[true, false, false] rfl rfl (by kernel_rfl) (fun _ _ _ h => h) (Or.inl ⟨by rfl, ?_⟩) hHeld ?_ ?_
    rotate_left
    ·rintro w' ⟨s0, s1, s2, s3⟩
     go_simp
     with_reducible rfl
    rotate_left
    ·simp only [Act.put, List.setIfInBounds_toArray, List.set_cons_zero, List.set_cons_succ, i64_w, i32_w]
     rfl
    refine one_ (i := 1) (N := some 14) #[true, true, false] rfl rfl (by kernel_rfl) (by decide) (fun K hK => ?_)
    refine sqG Try.func100 #[] ?_
    with_reducible refine (spec_l10None.calls  t312 t313 t314 t315 _ A18.out).mono ?_
    rintro e w42 ⟨rfl, hb⟩
    refine ⟨_, rfl, ?_⟩
    refine sqM2 BK308 BK309 hb ?_; clear BK308 BK309; intro BK308 BK309
    replace HB := sqs HB hb
    (try clear hb)
    refine hK.out _ _ sqz (fun hHeld => ?_)
    clear hK K
    refine sqnm ?_
    refine pure_ (i := 2) (N := some 15) (v := ?_) (a' := ?_) #[true, true, true] rfl rfl (by kernel_rfl) (fun _ _ _ h => h) (Or.inl ⟨by rfl, ?_⟩) ?_ ?_
    rotate_left
    ·intro w'
     go_simp
     with_reducible rfl
    rotate_left
    ·simp only [Act.put, List.setIfInBounds_toArray, List.set_cons_zero, List.set_cons_succ, i64_w, i32_w]
     rfl
    refine done_ (by kernel_rfl) ?_
    try go_wp2
    replace BK308 := Aside0.mk (blk_drew BK308.out)
    replace BK309 := Aside0.mk (blk_drew BK309.out)
    replace HB := Aside0.mk (below_drew1 HB.out)
    refine start_ (n := 18) (S := fun w' => w'.cell? ⟨gb309, 0, none⟩ = some (.int .i64 a1_0) ∧ w'.cell? ⟨gb309, 1, none⟩ = some (.int .i64 a1_1) ∧ w'.cell? ⟨gb309, 2, none⟩ = some (.int .i64 a1_2) ∧ w'.cell? ⟨gb309, 3, none⟩ = some (.int .i64 a1_3) ∧ w'.cell? ⟨gb308, 0, none⟩ = some (.int .i64 a0_0) ∧ w'.cell? ⟨gb308, 1, none⟩ = some (.int .i64 a0_1) ∧ w'.cell? ⟨gb308, 2, none⟩ = some (.int .i64 a0_2) ∧ w'.cell? ⟨gb308, 3, none⟩ = some (.int .i64 a0_3)) (ds := []) #[false, false, false, false, false, false, false, false, false, false, false, false, false, false, false, false, false, false] (by kernel_rfl) rfl rfl sqz (fun hHeld => ?_); refine with_tabW spec_ValIn.tab5 spec_ValIn.bits5 (fun HT_ HW_ => ?_)
    generalize w42.drew = w43 at BK308 BK309 HB hHeld ⊢
    refine sqw HT_ HW_ 0 16 hHeld ?_
    refine sqo HT_ 1 17 (fun K hK => ?_)
    refine sqG Try.func100 #[] ?_
    with_reducible refine (spec_l10None.calls  t316 t317 t318 t319 _ A22.out).mono ?_
    rintro e w44 ⟨rfl, hb⟩
    refine ⟨_, rfl, ?_⟩
    refine sqM2 BK308 BK309 hb ?_; clear BK308 BK309; intro BK308 BK309
    replace HB := sqs HB hb
    (try clear hb)
    refine hK.out _ _ sqz (fun hHeld => ?_)
    clear hK K
    refine sqnm ?_
    refine sqp HT_ 2 18 ?_
    refine sqp HT_ 3 19 ?_
    refine sqw HT_ HW_ 4 20 hHeld ?_
    refine sqw HT_ HW_ 6 22 hHeld ?_
    refine sqo HT_ 5 21 (fun K hK => ?_)
    refine sqG Try.func180 #[.agg #[.int .i64 a0_0, .int .i64 a0_1, .int .i64 a0_2, .int .i64 a0_3]] ?_
    with_reducible refine (spec_l10Range.calls a0_0 a0_1 a0_2 a0_3 t320 t321 _ A24.out).mono ?_
    rintro e w45 ⟨rfl, hb⟩
    refine ⟨_, rfl, ?_⟩
    refine sqM2 BK308 BK309 hb ?_; clear BK308 BK309; intro BK308 BK309
    replace HB := sqs HB hb
    (try clear hb)
    refine hK.out _ _ sqz (fun hHeld => ?_)
    clear hK K
    refine sqnm ?_
    refine sqo HT_ 7 23 (fun K hK => ?_)
    refine sqG Try.func180 #[.agg #[.int .i64 a1_0, .int .i64 a1_1, .int .i64 a1_2, .int .i64 a1_3]] ?_
    with_reducible refine (spec_l10Range.calls a1_0 a1_1 a1_2 a1_3 t322 t323 _ A25.out).mono ?_
    rintro e w46 ⟨rfl, hb⟩
    refine ⟨_, rfl, ?_⟩
    refine sqM2 BK308 BK309 hb ?_; clear BK308 BK309; intro BK308 BK309
    replace HB := sqs HB hb
    (try clear hb)
    refine hK.out _ _ sqz (fun hHeld => ?_)
    clear hK K
    refine sqnm ?_
    refine sqo HT_ 8 24 (fun K hK => ?_)
    refine sqG Try.func219 #[.agg #[.int .i64 t320, .int .i64 t321], .agg #[.int .i64 t322, .int .i64 t323]] ?_
    with_reducible refine (spec_RangeIn.calls t320 t321 t322 t323 false _ A26.out).mono ?_
    rintro e w47 ⟨rfl, hb⟩
    refine ⟨_, rfl, ?_⟩
    refine sqM2 BK308 BK309 hb ?_; clear BK308 BK309; intro BK308 BK309
    replace HB := sqs HB hb
    (try clear hb)
    refine hK.out _ _ sqz (fun hHeld => ?_)
    clear hK K
    refine sqnm ?_
    refine sqp HT_ 9 25 ?_
    refine sqp HT_ 10 26 ?_
    refine sqpu HT_ 11 27 ?_
    refine sqpu HT_ 12 28 ?_
    refine sqpu HT_ 13 29 ?_
    refine sqpu HT_ 14 30 ?_
    refine sqpu HT_ 15 31 ?_
    refine sqp HT_ 16 32 ?_
    refine sqp HT_ 17 4 ?_
    refine done_ (done_of HT_.out (by kernel_rfl)) ?_
    try go_wp2
    go_ret
    exact sqe HB
   subst c27
   have H1 : ((spec_l10Rest.f a0_0 a0_1 a0_2 a0_3).bind fun bt325 => ((spec_l10Rest.f a1_0 a1_1 a1_2 a1_3).bind fun bt327 => ((spec_RestIn.f kj2 bt325.1 bt325.2 bt327.1 bt327.2).bind fun t329 => (some t329)))) = some r := by rw [if_pos rfl] at H; exact H
   clear H
   have H := H1
   clear H1
   replace H := sqbi H
   obtain ⟨⟨t325, t326⟩, A28, H⟩ := H
   replace H : ((spec_l10Rest.f a1_0 a1_1 a1_2 a1_3).bind fun bt327 => ((spec_RestIn.f kj2 t325 t326 bt327.1 bt327.2).bind fun t329 => (some t329))) = some r := H
   replace H := sqbi H
   obtain ⟨⟨t327, t328⟩, A29, H⟩ := H
   replace H : ((spec_RestIn.f kj2 t325 t326 t327 t328).bind fun t329 => (some t329)) = some r := H
   replace H := sqbi H
   obtain ⟨t329, A30, H⟩ := H
   replace H : (some t329) = some r := H
   obtain rfl := Option.some.inj H
   try go_wp2
   replace BK308 := Aside0.mk (blk_drew BK308.out)
   replace BK309 := Aside0.mk (blk_drew BK309.out)
   replace HB := Aside0.mk (below_drew1 HB.out)
   refine start_ (n := 3) (S := fun w' => w'.cell? ⟨gb308, 0, none⟩ = some (.int .i64 a0_0) ∧ w'.cell? ⟨gb308, 1, none⟩ = some (.int .i64 a0_1) ∧ w'.cell? ⟨gb308, 2, none⟩ = some (.int .i64 a0_2) ∧ w'.cell? ⟨gb308, 3, none⟩ = some (.int .i64 a0_3)) (ds := []) #[false, false, false] (by kernel_rfl) rfl rfl sqz (fun hHeld => ?_)
   generalize wc.drew = w31 at BK308 BK309 HB hHeld ⊢
   refine take_ (i := 0) (N := some 13) (v := ?_) (a' := ?_) #[true, false, false] rfl rfl (by kernel_rfl) (fun _ _ _ h => h) (Or.inl ⟨by rfl, ?_⟩) hHeld ?_ ?_
   rotate_left
   ·rintro w' ⟨s0, s1, s2, s3⟩
    go_simp
    with_reducible rfl
   rotate_left
   ·simp only [Act.put, List.setIfInBounds_toArray, List.set_cons_zero, List.set_cons_succ, i64_w, i32_w]
    rfl
   refine one_ (i := 1) (N := some 14) #[true, true, false] rfl rfl (by kernel_rfl) (by decide) (fun K hK => ?_)
   refine sqG Try.func100 #[] ?_
   with_reducible refine (spec_l10None.calls  t312 t313 t314 t315 _ A18.out).mono ?_
   rintro e w32 ⟨rfl, hb⟩
   refine ⟨_, rfl, ?_⟩
   refine sqM2 BK308 BK309 hb ?_; clear BK308 BK309; intro BK308 BK309
   replace HB := sqs HB hb
   (try clear hb)
   refine hK.out _ _ sqz (fun hHeld => ?_)
   clear hK K
   refine sqnm ?_
   refine pure_ (i := 2) (N := some 15) (v := ?_) (a' := ?_) #[true, true, true] rfl rfl (by kernel_rfl) (fun _ _ _ h => h) (Or.inl ⟨by rfl, ?_⟩) ?_ ?_
   rotate_left
   ·intro w'
    go_simp
    with_reducible rfl
   rotate_left
   ·simp only [Act.put, List.setIfInBounds_toArray, List.set_cons_zero, List.set_cons_succ, i64_w, i32_w]
    rfl
   refine done_ (by kernel_rfl) ?_
   try go_wp2
   replace BK308 := Aside0.mk (blk_drew BK308.out)
   replace BK309 := Aside0.mk (blk_drew BK309.out)
   replace HB := Aside0.mk (below_drew1 HB.out)
   refine start_ (n := 18) (S := fun w' => w'.cell? ⟨gb309, 0, none⟩ = some (.int .i64 a1_0) ∧ w'.cell? ⟨gb309, 1, none⟩ = some (.int .i64 a1_1) ∧ w'.cell? ⟨gb309, 2, none⟩ = some (.int .i64 a1_2) ∧ w'.cell? ⟨gb309, 3, none⟩ = some (.int .i64 a1_3) ∧ w'.cell? ⟨gb308, 0, none⟩ = some (.int .i64 a0_0) ∧ w'.cell? ⟨gb308, 1, none⟩ = some (.int .i64 a0_1) ∧ w'.cell? ⟨gb308, 2, none⟩ = some (.int .i64 a0_2) ∧ w'.cell? ⟨gb308, 3, none⟩ = some (.int .i64 a0_3)) (ds := []) #[false, false, false, false, false, false, false, false, false, false, false, false, false, false, false, false, false, false] (by kernel_rfl) rfl rfl sqz (fun hHeld => ?_); refine with_tabW spec_ValIn.tab5 spec_ValIn.bits5 (fun HT_ HW_ => ?_)
   generalize w32.drew = w33 at BK308 BK309 HB hHeld ⊢
   refine sqw HT_ HW_ 0 16 hHeld ?_
   refine sqo HT_ 1 17 (fun K hK => ?_)
   refine sqG Try.func100 #[] ?_
   with_reducible refine (spec_l10None.calls  t316 t317 t318 t319 _ A22.out).mono ?_
   rintro e w34 ⟨rfl, hb⟩
   refine ⟨_, rfl, ?_⟩
   refine sqM2 BK308 BK309 hb ?_; clear BK308 BK309; intro BK308 BK309
   replace HB := sqs HB hb
   (try clear hb)
   refine hK.out _ _ sqz (fun hHeld => ?_)
   clear hK K
   refine sqnm ?_
   refine sqp HT_ 2 18 ?_
   refine sqp HT_ 3 19 ?_
   refine sqw HT_ HW_ 4 20 hHeld ?_
   refine sqw HT_ HW_ 6 22 hHeld ?_
   refine sqo HT_ 5 21 (fun K hK => ?_)
   refine sqG Try.func180 #[.agg #[.int .i64 a0_0, .int .i64 a0_1, .int .i64 a0_2, .int .i64 a0_3]] ?_
   with_reducible refine (spec_l10Range.calls a0_0 a0_1 a0_2 a0_3 t320 t321 _ A24.out).mono ?_
   rintro e w35 ⟨rfl, hb⟩
   refine ⟨_, rfl, ?_⟩
   refine sqM2 BK308 BK309 hb ?_; clear BK308 BK309; intro BK308 BK309
   replace HB := sqs HB hb
   (try clear hb)
   refine hK.out _ _ sqz (fun hHeld => ?_)
   clear hK K
   refine sqnm ?_
   refine sqo HT_ 7 23 (fun K hK => ?_)
   refine sqG Try.func180 #[.agg #[.int .i64 a1_0, .int .i64 a1_1, .int .i64 a1_2, .int .i64 a1_3]] ?_
   with_reducible refine (spec_l10Range.calls a1_0 a1_1 a1_2 a1_3 t322 t323 _ A25.out).mono ?_
   rintro e w36 ⟨rfl, hb⟩
   refine ⟨_, rfl, ?_⟩
   refine sqM2 BK308 BK309 hb ?_; clear BK308 BK309; intro BK308 BK309
   replace HB := sqs HB hb
   (try clear hb)
   refine hK.out _ _ sqz (fun hHeld => ?_)
   clear hK K
   refine sqnm ?_
   refine sqo HT_ 8 24 (fun K hK => ?_)
   refine sqG Try.func219 #[.agg #[.int .i64 t320, .int .i64 t321], .agg #[.int .i64 t322, .int .i64 t323]] ?_
   with_reducible refine (spec_RangeIn.calls t320 t321 t322 t323 true _ A26.out).mono ?_
   rintro e w37 ⟨rfl, hb⟩
   refine ⟨_, rfl, ?_⟩
   refine sqM2 BK308 BK309 hb ?_; clear BK308 BK309; intro BK308 BK309
   replace HB := sqs HB hb
   (try clear hb)
   refine hK.out _ _ sqz (fun hHeld => ?_)
   clear hK K
   refine sqnm ?_
   refine sqp HT_ 9 25 ?_
   refine sqp HT_ 10 26 ?_
   refine sqw HT_ HW_ 11 27 hHeld ?_
   refine sqw HT_ HW_ 13 29 hHeld ?_
   refine sqo HT_ 12 28 (fun K hK => ?_)
   refine sqG Try.func181 #[.agg #[.int .i64 a0_0, .int .i64 a0_1, .int .i64 a0_2, .int .i64 a0_3]] ?_
   with_reducible refine (spec_l10Rest.calls a0_0 a0_1 a0_2 a0_3 t325 t326 _ A28.out).mono ?_
   rintro e w38 ⟨rfl, hb⟩
   refine ⟨_, rfl, ?_⟩
   refine sqM2 BK308 BK309 hb ?_; clear BK308 BK309; intro BK308 BK309
   replace HB := sqs HB hb
   (try clear hb)
   refine hK.out _ _ sqz (fun hHeld => ?_)
   clear hK K
   refine sqnm ?_
   refine sqo HT_ 14 30 (fun K hK => ?_)
   refine sqG Try.func181 #[.agg #[.int .i64 a1_0, .int .i64 a1_1, .int .i64 a1_2, .int .i64 a1_3]] ?_
   with_reducible refine (spec_l10Rest.calls a1_0 a1_1 a1_2 a1_3 t327 t328 _ A29.out).mono ?_
   rintro e w39 ⟨rfl, hb⟩
   refine ⟨_, rfl, ?_⟩
   refine sqM2 BK308 BK309 hb ?_; clear BK308 BK309; intro BK308 BK309
   replace HB := sqs HB hb
   (try clear hb)
   refine hK.out _ _ sqz (fun hHeld => ?_)
   clear hK K
   refine sqnm ?_
   refine sqo HT_ 15 31 (fun K hK => ?_)
   refine sqG Try.func220 #[.agg #[.int .i64 t325, .int .i64 t326], .agg #[.int .i64 t327, .int .i64 t328]] ?_
   with_reducible refine (spec_RestIn.calls kj2 t325 t326 t327 t328 t329 _ A30.out).mono ?_
   rintro e w40 ⟨rfl, hb⟩
   refine ⟨_, rfl, ?_⟩
   refine sqM2 BK308 BK309 hb ?_; clear BK308 BK309; intro BK308 BK309
   replace HB := sqs HB hb
   (try clear hb)
   refine hK.out _ _ sqz (fun hHeld => ?_)
   clear hK K
   refine sqnm ?_
   refine sqp HT_ 16 32 ?_
   refine sqp HT_ 17 4 ?_
   refine done_ (done_of HT_.out (by kernel_rfl)) ?_
   try go_wp2
   go_ret
   exact sqe HB

end Go.Proofs.Ytkekcenlleebeaa.PFnExactAbsIn
