/- Functions of the program as plain Lean functions, and that calls of them come to what these tell. Conditions: those in each law. -/
import Derived.Test.YtkekcenlleebeaaSq
import Derived.Test.YtkekcenlleebeaaDFnExactAbsIn
import Derived.Test.YtkekcenlleebeaaQFnExactAbsInx0
import Derived.Test.YtkekcenlleebeaaQFnExactAbsInx24
import Derived.Test.YtkekcenlleebeaaQFnExactAbsInx27
namespace Go.Proofs.Ytkekcenlleebeaa.PFnExactAbsIn
open Go.RowKit Go.Proofs.Ytkekcenlleebeaa.Sq Go.Proofs.YtkekcenlleebeaaW.PrintWords Go.Proofs.YtkekcenlleebeaaW.PrintLast Go.Proofs.YtkekcenlleebeaaW.PrintMore
attribute [local go_sem] max2_int min2_int max_two min_two max_three min_three max_four min_four   -- for this text's walks alone
set_option linter.unusedVariables false
set_option linter.unusedSimpArgs false

/-! ### impl_ValIn: function 81 -/
def impl_ValIn.T5 : Bool × List (List Nat × List Nat) := (true, [([], []), ([0], [0]), ([1], [1]), ([2, 1], [2]), ([3], [3]), ([4, 3, 3], [3, 4]), ([3], [3]), ([6, 5, 3], [3, 6]), ([5, 7, 7, 3], [3, 5, 7]), ([3, 8], [3, 8]), ([9, 8], [9]), ([10], [10]), ([11, 10, 10], [10, 11]), ([10], [10]), ([13, 12, 10], [10, 13]), ([12, 14, 14, 10], [10, 12, 14]), ([10, 15], [10, 15]), ([16, 15, 0, 1, 2, 3, 4, 5, 6, 7, 8, 9, 10, 11, 12, 13, 14, 15, 16], [16])])
def impl_ValIn.B5 : List Nat := [0, 1, 3, 7, 15, 31, 15, 127, 255, 511, 1023, 2047, 4095, 2047, 16383, 32767, 65535, 131071]
theorem impl_ValIn.tab5 : rtab .any (opsOf Try.f81 5) = impl_ValIn.T5 := by kernel_rfl
theorem impl_ValIn.bits5 : waitsOk impl_ValIn.T5.2 impl_ValIn.B5 = true := by kernel_rfl
set_option maxHeartbeats 8000000 in
set_option maxRecDepth 100000 in
theorem impl_ValIn.calls (k : Nat) (a0_0 : Int) (a0_1 : Int) (a0_2 : Int) (a0_3 : Int) (a1_0 : Int) (a1_1 : Int) (a1_2 : Int) (a1_3 : Int) (r : Bool) (w : World) (h : impl_ValIn.f k a0_0 a0_1 a0_2 a0_3 a1_0 a1_1 a1_2 a1_3 = some r) :
  Calls Try.prog 81 #[.agg #[.int .i64 a0_0, .int .i64 a0_1, .int .i64 a0_2, .int .i64 a0_3], .agg #[.int .i64 a1_0, .int .i64 a1_1, .int .i64 a1_2, .int .i64 a1_3]] w fun e w' => e = .returned (.bool r) ∧ Below w.heap.size w w' := by
 have hu30 := Try.underlying30
 have HB := Aside0.mk (Below.refl w.heap.size w)
 have H : ((impl_ValOk.f k a0_0 a0_1 a0_2 a0_3).bind fun t460 => (if t460 = true then ((impl_ValOk.f k a1_0 a1_1 a1_2 a1_3).bind fun t461 => (impl_ValIn.j0 k (!t461) a0_0 a0_1 a0_2 a0_3 a1_0 a1_1 a1_2 a1_3)) else (impl_ValIn.j0 k true a0_0 a0_1 a0_2 a0_3 a1_0 a1_1 a1_2 a1_3))) = some r := h
 clear h
 have HC3 := Aside0.mk H
 clear H
 go_enter Try.func81, Try.ntmps81
 go_upto_region 1 with (first | ((with_reducible refine gate_dst (N := 2) rfl ?_); refine sqx 2 #[.int .i64 a0_0, .int .i64 a0_1, .int .i64 a0_2, .int .i64 a0_3] 30 ?_; intro gb458 hg w4 hbox hb; have BK458 := Aside0.mk hbox; have GW458 := sqg HB hg; have GE458 := sqg HB hg; replace HB := sqs HB hb; clear hb hbox hg) | ((with_reducible refine gate_dst (N := 3) rfl ?_); refine sqx 3 #[.int .i64 a1_0, .int .i64 a1_1, .int .i64 a1_2, .int .i64 a1_3] 30 ?_; intro gb459 hg w5 hbox hb; have BK459 := Aside0.mk hbox; have GW459 := sqg HB hg; have GE459 := sqg HB hg; have NB458_459 := sqn BK458 hg; have NB459_458 := sqm BK458 hg; replace BK458 := sqb BK458 hb; replace HB := sqs HB hb; clear hb hbox hg))
 (try simp only [Act.put, List.setIfInBounds_toArray, List.set_cons_zero, List.set_cons_succ])
 go_cut [12] (fun v12 wc => ∃ (kq : Nat) (x12_2 : Bool), v12 = .bool x12_2 ∧ Aside0 (impl_ValIn.j0 kq x12_2 a0_0 a0_1 a0_2 a0_3 a1_0 a1_1 a1_2 a1_3 = some r) ∧ Aside0 (kq ≤ k) ∧ Aside0 (wc.heap[gb458]? = some (.cells #[.int .i64 a0_0, .int .i64 a0_1, .int .i64 a0_2, .int .i64 a0_3] 30 (0, 0))) ∧ Aside0 (wc.heap[gb459]? = some (.cells #[.int .i64 a1_0, .int .i64 a1_1, .int .i64 a1_2, .int .i64 a1_3] 30 (0, 0))) ∧ Aside0 (Below w.heap.size w wc))
 case first =>
  have H := HC3.out
  clear HC3
  replace H := sqbi H
  obtain ⟨t460, A6, H⟩ := H
  replace H : (if t460 = true then ((impl_ValOk.f k a1_0 a1_1 a1_2 a1_3).bind fun t461 => (impl_ValIn.j0 k (!t461) a0_0 a0_1 a0_2 a0_3 a1_0 a1_1 a1_2 a1_3)) else (impl_ValIn.j0 k true a0_0 a0_1 a0_2 a0_3 a1_0 a1_1 a1_2 a1_3)) = some r := H
  rcases sqI (t460 = true) with c7 | c7
  ·replace c7 := Bool.eq_false_iff.mpr c7
   subst c7
   have H1 : (impl_ValIn.j0 k true a0_0 a0_1 a0_2 a0_3 a1_0 a1_1 a1_2 a1_3) = some r := by rw [if_neg (show ¬ (false = true) by decide)] at H; exact H
   clear H
   have H := H1
   clear H1
   have H' := Aside0.mk H
   clear H
   have hnb14 := NB458_459.out
   have hnc14 := NB459_458.out
   obtain ⟨hcz15_0, hcz15_1, hcz15_2, hcz15_3, hfz15_0, hfz15_1, hfz15_2, hfz15_3⟩ := sqc4 BK458
   go_wp2_with (first | ((with_reducible refine gate_callee (f := 18) rfl ?_); refine sqL (some 6) Try.func18 #[.agg #[.int .i64 a0_0, .int .i64 a0_1, .int .i64 a0_2, .int .i64 a0_3]] ?_; (with_reducible refine (impl_ValOk.calls k a0_0 a0_1 a0_2 a0_3 false _ A6.out).mono ?_); rintro e w16 ⟨rfl, hb⟩; refine ⟨_, rfl, ?_⟩; refine sqM2 BK458 BK459 hb ?_; clear BK458 BK459; intro BK458 BK459; replace HB := sqs HB hb; (try clear hb)))
   go_meet
   case rel => exact ⟨_, (true), (by first | rfl | (simp; done) | (simp [*]; done)), H', ⟨by first | omega | exact Nat.le_refl _⟩, sqk BK458, sqk BK459, sqh HB⟩
  subst c7
  have H1 : ((impl_ValOk.f k a1_0 a1_1 a1_2 a1_3).bind fun t461 => (impl_ValIn.j0 k (!t461) a0_0 a0_1 a0_2 a0_3 a1_0 a1_1 a1_2 a1_3)) = some r := by rw [if_pos rfl] at H; exact H
  clear H
  have H := H1
  clear H1
  replace H := sqbi H
  obtain ⟨t461, A8, H⟩ := H
  replace H : (impl_ValIn.j0 k (!t461) a0_0 a0_1 a0_2 a0_3 a1_0 a1_1 a1_2 a1_3) = some r := H
  have H' := Aside0.mk H
  clear H
  have hnb9 := NB458_459.out
  have hnc9 := NB459_458.out
  obtain ⟨hcz10_0, hcz10_1, hcz10_2, hcz10_3, hfz10_0, hfz10_1, hfz10_2, hfz10_3⟩ := sqc4 BK458
  go_wp2_with (first | ((with_reducible refine gate_callee (f := 18) rfl ?_); refine sqL (some 6) Try.func18 #[.agg #[.int .i64 a0_0, .int .i64 a0_1, .int .i64 a0_2, .int .i64 a0_3]] ?_; (with_reducible refine (impl_ValOk.calls k a0_0 a0_1 a0_2 a0_3 true _ A6.out).mono ?_); rintro e w11 ⟨rfl, hb⟩; refine ⟨_, rfl, ?_⟩; refine sqM2 BK458 BK459 hb ?_; clear BK458 BK459; intro BK458 BK459; replace HB := sqs HB hb; (try clear hb); obtain ⟨hcz12_0, hcz12_1, hcz12_2, hcz12_3, hfz12_0, hfz12_1, hfz12_2, hfz12_3⟩ := sqc4 BK459) | (go_at_call 18; (with_reducible refine (impl_ValOk.calls k a1_0 a1_1 a1_2 a1_3 t461 _ A8.out).mono ?_); rintro e w13 ⟨rfl, hb⟩; refine sqM2 BK458 BK459 hb ?_; clear BK458 BK459; intro BK458 BK459; replace HB := sqs HB hb; (try clear hb)))
  go_meet
  case rel => exact ⟨_, (!t461), (by first | rfl | (simp; done) | (simp [*]; done)), H', ⟨by first | omega | exact Nat.le_refl _⟩, sqk BK458, sqk BK459, sqh HB⟩
 case rest =>
  clear HC3
  obtain ⟨kq, x12_2, rfl, HA, HJ2, BK458, BK459, HB⟩ := hcut
  cases kq with
  | zero => exact absurd HA.out (by simp [impl_ValIn.j0])
  | succ kj2 =>
   have H := HA.out
   clear HA
   simp only [impl_ValIn.j0] at H
   by_cases c17 : x12_2 = true
   ·subst c17
    have H1 : (some false) = some r := by rw [if_pos rfl] at H; exact H
    clear H
    have H := H1
    clear H1
    obtain rfl := Option.some.inj H
    go_wp2
    go_ret
    exact sqe HB
   replace c17 := Bool.eq_false_iff.mpr c17
   subst c17
   have H1 : ((impl_Val_none.f a0_0 a0_1 a0_2 a0_3).bind fun t462 => (if t462 = true then (some true) else ((impl_Val_none.f a1_0 a1_1 a1_2 a1_3).bind fun t463 => (if t463 = true then (some false) else ((impl_Val_span.f a0_0 a0_1 a0_2 a0_3).bind fun bt464 => ((impl_Val_span.f a1_0 a1_1 a1_2 a1_3).bind fun bt466 => ((impl_RangeIn.f bt464.1 bt464.2 bt466.1 bt466.2).bind fun t468 => (if t468 = true then ((impl_Val_rest.f a0_0 a0_1 a0_2 a0_3).bind fun bt469 => ((impl_Val_rest.f a1_0 a1_1 a1_2 a1_3).bind fun bt471 => ((impl_RestIn.f kj2 bt469.1 bt469.2 bt471.1 bt471.2).bind fun t473 => (some t473)))) else (some false))))))))) = some r := by rw [if_neg (show ¬ (false = true) by decide)] at H; exact H
   clear H
   have H := H1
   clear H1
   replace H := sqbi H
   obtain ⟨t462, A18, H⟩ := H
   replace H : (if t462 = true then (some true) else ((impl_Val_none.f a1_0 a1_1 a1_2 a1_3).bind fun t463 => (if t463 = true then (some false) else ((impl_Val_span.f a0_0 a0_1 a0_2 a0_3).bind fun bt464 => ((impl_Val_span.f a1_0 a1_1 a1_2 a1_3).bind fun bt466 => ((impl_RangeIn.f bt464.1 bt464.2 bt466.1 bt466.2).bind fun t468 => (if t468 = true then ((impl_Val_rest.f a0_0 a0_1 a0_2 a0_3).bind fun bt469 => ((impl_Val_rest.f a1_0 a1_1 a1_2 a1_3).bind fun bt471 => ((impl_RestIn.f kj2 bt469.1 bt469.2 bt471.1 bt471.2).bind fun t473 => (some t473)))) else (some false)))))))) = some r := H
   by_cases c19 : t462 = true
   ·subst c19
    have H1 : (some true) = some r := by rw [if_pos rfl] at H; exact H
    clear H
    have H := H1
    clear H1
    obtain rfl := Option.some.inj H
    have hnb20 := NB458_459.out
    have hnc20 := NB459_458.out
    obtain ⟨hcz21_0, hcz21_1, hcz21_2, hcz21_3, hfz21_0, hfz21_1, hfz21_2, hfz21_3⟩ := sqc4 BK458
    go_wp2_with (first | ((with_reducible refine gate_callee (f := 144) rfl ?_); refine sqL (some 14) Try.func144 #[.agg #[.int .i64 a0_0, .int .i64 a0_1, .int .i64 a0_2, .int .i64 a0_3]] ?_; (with_reducible refine (impl_Val_none.calls a0_0 a0_1 a0_2 a0_3 true _ A18.out).mono ?_); rintro e w22 ⟨rfl, hb⟩; refine ⟨_, rfl, ?_⟩; refine sqM2 BK458 BK459 hb ?_; clear BK458 BK459; intro BK458 BK459; replace HB := sqs HB hb; (try clear hb)))
    go_ret
    exact sqe HB
   replace c19 := Bool.eq_false_iff.mpr c19
   subst c19
   have H1 : ((impl_Val_none.f a1_0 a1_1 a1_2 a1_3).bind fun t463 => (if t463 = true then (some false) else ((impl_Val_span.f a0_0 a0_1 a0_2 a0_3).bind fun bt464 => ((impl_Val_span.f a1_0 a1_1 a1_2 a1_3).bind fun bt466 => ((impl_RangeIn.f bt464.1 bt464.2 bt466.1 bt466.2).bind fun t468 => (if t468 = true then ((impl_Val_rest.f a0_0 a0_1 a0_2 a0_3).bind fun bt469 => ((impl_Val_rest.f a1_0 a1_1 a1_2 a1_3).bind fun bt471 => ((impl_RestIn.f kj2 bt469.1 bt469.2 bt471.1 bt471.2).bind fun t473 => (some t473)))) else (some false))))))) = some r := by rw [if_neg (show ¬ (false = true) by decide)] at H; exact H
   clear H
   have H := H1
   clear H1
   replace H := sqbi H
   obtain ⟨t463, A23, H⟩ := H
   replace H : (if t463 = true then (some false) else ((impl_Val_span.f a0_0 a0_1 a0_2 a0_3).bind fun bt464 => ((impl_Val_span.f a1_0 a1_1 a1_2 a1_3).bind fun bt466 => ((impl_RangeIn.f bt464.1 bt464.2 bt466.1 bt466.2).bind fun t468 => (if t468 = true then ((impl_Val_rest.f a0_0 a0_1 a0_2 a0_3).bind fun bt469 => ((impl_Val_rest.f a1_0 a1_1 a1_2 a1_3).bind fun bt471 => ((impl_RestIn.f kj2 bt469.1 bt469.2 bt471.1 bt471.2).bind fun t473 => (some t473)))) else (some false)))))) = some r := H
   by_cases c24 : t463 = true
   ·subst c24
    have H1 : (some false) = some r := by rw [if_pos rfl] at H; exact H
    clear H
    have H := H1
    clear H1
    obtain rfl := Option.some.inj H
    have hnb25 := NB458_459.out
    have hnc25 := NB459_458.out
    obtain ⟨hcz26_0, hcz26_1, hcz26_2, hcz26_3, hfz26_0, hfz26_1, hfz26_2, hfz26_3⟩ := sqc4 BK458
    try go_wp2_with (first | ((with_reducible refine gate_callee (f := 144) rfl ?_); refine sqL (some 14) Try.func144 #[.agg #[.int .i64 a0_0, .int .i64 a0_1, .int .i64 a0_2, .int .i64 a0_3]] ?_; (with_reducible refine (impl_Val_none.calls a0_0 a0_1 a0_2 a0_3 false _ A18.out).mono ?_); rintro e w27 ⟨rfl, hb⟩; refine ⟨_, rfl, ?_⟩; refine sqM2 BK458 BK459 hb ?_; clear BK458 BK459; intro BK458 BK459; replace HB := sqs HB hb; (try clear hb)))
    replace BK458 := Aside0.mk (blk_drew BK458.out)
    replace BK459 := Aside0.mk (blk_drew BK459.out)
    replace HB := Aside0.mk (below_drew1 HB.out)
    refine start_ (n := 18) (S := fun w' => w'.cell? ⟨gb459, 0, none⟩ = some (.int .i64 a1_0) ∧ w'.cell? ⟨gb459, 1, none⟩ = some (.int .i64 a1_1) ∧ w'.cell? ⟨gb459, 2, none⟩ = some (.int .i64 a1_2) ∧ w'.cell? ⟨gb459, 3, none⟩ = some (.int .i64 a1_3)) (ds := []) #[false, false, false, false, false, false, false, false, false, false, false, false, false, false, false, false, false, false] (by kernel_rfl) rfl rfl sqz (fun hHeld => ?_); refine with_tabW impl_ValIn.tab5 impl_ValIn.bits5 (fun HT_ HW_ => ?_)
    generalize w27.drew = w28 at BK458 BK459 HB hHeld ⊢
    refine sqw HT_ HW_ 0 15 hHeld ?_
    refine sqo HT_ 1 16 (fun K hK => ?_)
    refine sqG Try.func144 #[.agg #[.int .i64 a1_0, .int .i64 a1_1, .int .i64 a1_2, .int .i64 a1_3]] ?_
    with_reducible refine (impl_Val_none.calls a1_0 a1_1 a1_2 a1_3 true _ A23.out).mono ?_
    rintro e w29 ⟨rfl, hb⟩
    refine ⟨_, rfl, ?_⟩
    refine sqM2 BK458 BK459 hb ?_; clear BK458 BK459; intro BK458 BK459
    replace HB := sqs HB hb
    (try clear hb)
    refine hK.out _ _ sqz (fun hHeld => ?_)
    clear hK K
    refine sqnm ?_
    refine sqp HT_ 2 17 ?_
    refine sqp HT_ 3 18 ?_
    refine sqpu HT_ 4 19 ?_
    refine sqpu HT_ 5 20 ?_
    refine sqpu HT_ 6 21 ?_
    refine sqpu HT_ 7 22 ?_
    refine sqpu HT_ 8 23 ?_
    refine sqp HT_ 9 24 ?_
    refine sqp HT_ 10 25 ?_
    refine sqpu HT_ 11 26 ?_
    refine sqpu HT_ 12 27 ?_
    refine sqpu HT_ 13 28 ?_
    refine sqpu HT_ 14 29 ?_
    refine sqpu HT_ 15 30 ?_
    refine sqp HT_ 16 31 ?_
    refine sqp HT_ 17 4 ?_
    refine done_ (done_of HT_.out (by kernel_rfl)) ?_
    try go_wp2
    go_ret
    exact sqe HB
   replace c24 := Bool.eq_false_iff.mpr c24
   subst c24
   have H1 : ((impl_Val_span.f a0_0 a0_1 a0_2 a0_3).bind fun bt464 => ((impl_Val_span.f a1_0 a1_1 a1_2 a1_3).bind fun bt466 => ((impl_RangeIn.f bt464.1 bt464.2 bt466.1 bt466.2).bind fun t468 => (if t468 = true then ((impl_Val_rest.f a0_0 a0_1 a0_2 a0_3).bind fun bt469 => ((impl_Val_rest.f a1_0 a1_1 a1_2 a1_3).bind fun bt471 => ((impl_RestIn.f kj2 bt469.1 bt469.2 bt471.1 bt471.2).bind fun t473 => (some t473)))) else (some false))))) = some r := by rw [if_neg (show ¬ (false = true) by decide)] at H; exact H
   clear H
   have H := H1
   clear H1
   replace H := sqbi H
   obtain ⟨⟨t464, t465⟩, A30, H⟩ := H
   replace H : ((impl_Val_span.f a1_0 a1_1 a1_2 a1_3).bind fun bt466 => ((impl_RangeIn.f t464 t465 bt466.1 bt466.2).bind fun t468 => (if t468 = true then ((impl_Val_rest.f a0_0 a0_1 a0_2 a0_3).bind fun bt469 => ((impl_Val_rest.f a1_0 a1_1 a1_2 a1_3).bind fun bt471 => ((impl_RestIn.f kj2 bt469.1 bt469.2 bt471.1 bt471.2).bind fun t473 => (some t473)))) else (some false)))) = some r := H
   replace H := sqbi H
   obtain ⟨⟨t466, t467⟩, A31, H⟩ := H
   replace H : ((impl_RangeIn.f t464 t465 t466 t467).bind fun t468 => (if t468 = true then ((impl_Val_rest.f a0_0 a0_1 a0_2 a0_3).bind fun bt469 => ((impl_Val_rest.f a1_0 a1_1 a1_2 a1_3).bind fun bt471 => ((impl_RestIn.f kj2 bt469.1 bt469.2 bt471.1 bt471.2).bind fun t473 => (some t473)))) else (some false))) = some r := H
   replace H := sqbi H
   obtain ⟨t468, A32, H⟩ := H
   replace H : (if t468 = true then ((impl_Val_rest.f a0_0 a0_1 a0_2 a0_3).bind fun bt469 => ((impl_Val_rest.f a1_0 a1_1 a1_2 a1_3).bind fun bt471 => ((impl_RestIn.f kj2 bt469.1 bt469.2 bt471.1 bt471.2).bind fun t473 => (some t473)))) else (some false)) = some r := H
   rcases sqI (t468 = true) with c33 | c33
   ·replace c33 := Bool.eq_false_iff.mpr c33
    subst c33
    have H1 : (some false) = some r := by rw [if_neg (show ¬ (false = true) by decide)] at H; exact H
    clear H
    have H := H1
    clear H1
    obtain rfl := Option.some.inj H
    have hnb48 := NB458_459.out
    have hnc48 := NB459_458.out
    obtain ⟨hcz49_0, hcz49_1, hcz49_2, hcz49_3, hfz49_0, hfz49_1, hfz49_2, hfz49_3⟩ := sqc4 BK458
    try go_wp2_with (first | ((with_reducible refine gate_callee (f := 144) rfl ?_); refine sqL (some 14) Try.func144 #[.agg #[.int .i64 a0_0, .int .i64 a0_1, .int .i64 a0_2, .int .i64 a0_3]] ?_; (with_reducible refine (impl_Val_none.calls a0_0 a0_1 a0_2 a0_3 false _ A18.out).mono ?_); rintro e w50 ⟨rfl, hb⟩; refine ⟨_, rfl, ?_⟩; refine sqM2 BK458 BK459 hb ?_; clear BK458 BK459; intro BK458 BK459; replace HB := sqs HB hb; (try clear hb)))
    replace BK458 := Aside0.mk (blk_drew BK458.out)
    replace BK459 := Aside0.mk (blk_drew BK459.out)
    replace HB := Aside0.mk (below_drew1 HB.out)
    refine start_ (n := 18) (S := fun w' => w'.cell? ⟨gb459, 0, none⟩ = some (.int .i64 a1_0) ∧ w'.cell? ⟨gb459, 1, none⟩ = some (.int .i64 a1_1) ∧ w'.cell? ⟨gb459, 2, none⟩ = some (.int .i64 a1_2) ∧ w'.cell? ⟨gb459, 3, none⟩ = some (.int .i64 a1_3) ∧ w'.cell? ⟨gb458, 0, none⟩ = some (.int .i64 a0_0) ∧ w'.cell? ⟨gb458, 1, none⟩ = some (.int .i64 a0_1) ∧ w'.cell? ⟨gb458, 2, none⟩ = some (.int .i64 a0_2) ∧ w'.cell? ⟨gb458, 3, none⟩ = some (.int .i64 a0_3)) (ds := []) #[false, false, false, false, false, false, false, false, false, false, false, false, false, false, false, false, false, false] (by kernel_rfl) rfl rfl sqz (fun hHeld => ?_); refine with_tabW impl_ValIn.tab5 impl_ValIn.bits5 (fun HT_ HW_ => ?_)
    generalize w50.drew = w51 at BK458 BK459 HB hHeld ⊢
    refine sqw HT_ HW_ 0 15 hHeld ?_
    refine sqo HT_ 1 16 (fun K hK => ?_)
    refine sqG Try.func144 #[.agg #[.int .i64 a1_0, .int .i64 a1_1, .int .i64 a1_2, .int .i64 a1_3]] ?_
    with_reducible refine (impl_Val_none.calls a1_0 a1_1 a1_2 a1_3 false _ A23.out).mono ?_
    rintro e w52 ⟨rfl, hb⟩
    refine ⟨_, rfl, ?_⟩
    refine sqM2 BK458 BK459 hb ?_; clear BK458 BK459; intro BK458 BK459
    replace HB := sqs HB hb
    (try clear hb)
    refine hK.out _ _ sqz (fun hHeld => ?_)
    clear hK K
    refine sqnm ?_
    refine sqp HT_ 2 17 ?_
    refine sqp HT_ 3 18 ?_
    refine sqw HT_ HW_ 4 19 hHeld ?_
    refine sqw HT_ HW_ 6 21 hHeld ?_
    refine sqo HT_ 5 20 (fun K hK => ?_)
    refine sqG Try.func103 #[.agg #[.int .i64 a0_0, .int .i64 a0_1, .int .i64 a0_2, .int .i64 a0_3]] ?_
    with_reducible refine (impl_Val_span.calls a0_0 a0_1 a0_2 a0_3 t464 t465 _ A30.out).mono ?_
    rintro e w53 ⟨rfl, hb⟩
    refine ⟨_, rfl, ?_⟩
    refine sqM2 BK458 BK459 hb ?_; clear BK458 BK459; intro BK458 BK459
    replace HB := sqs HB hb
    (try clear hb)
    refine hK.out _ _ sqz (fun hHeld => ?_)
    clear hK K
    refine sqnm ?_
    refine sqo HT_ 7 22 (fun K hK => ?_)
    refine sqG Try.func103 #[.agg #[.int .i64 a1_0, .int .i64 a1_1, .int .i64 a1_2, .int .i64 a1_3]] ?_
    with_reducible refine (impl_Val_span.calls a1_0 a1_1 a1_2 a1_3 t466 t467 _ A31.out).mono ?_
    rintro e w54 ⟨rfl, hb⟩
    refine ⟨_, rfl, ?_⟩
    refine sqM2 BK458 BK459 hb ?_; clear BK458 BK459; intro BK458 BK459
    replace HB := sqs HB hb
    (try clear hb)
    refine hK.out _ _ sqz (fun hHeld => ?_)
    clear hK K
    refine sqnm ?_
    refine sqo HT_ 8 23 (fun K hK => ?_)
    refine sqG Try.func46 #[.agg #[.int .i64 t464, .int .i64 t465], .agg #[.int .i64 t466, .int .i64 t467]] ?_
    with_reducible refine (impl_RangeIn.calls t464 t465 t466 t467 false _ A32.out).mono ?_
    rintro e w55 ⟨rfl, hb⟩
    refine ⟨_, rfl, ?_⟩
    refine sqM2 BK458 BK459 hb ?_; clear BK458 BK459; intro BK458 BK459
    replace HB := sqs HB hb
    (try clear hb)
    refine hK.out _ _ sqz (fun hHeld => ?_)
    clear hK K
    refine sqnm ?_
    refine sqp HT_ 9 24 ?_
    refine sqp HT_ 10 25 ?_
    refine sqpu HT_ 11 26 ?_
    refine sqpu HT_ 12 27 ?_
    refine sqpu HT_ 13 28 ?_
    refine sqpu HT_ 14 29 ?_
    refine sqpu HT_ 15 30 ?_
    refine sqp HT_ 16 31 ?_
    refine sqp HT_ 17 4 ?_
    refine done_ (done_of HT_.out (by kernel_rfl)) ?_
    try go_wp2
    go_ret
    exact sqe HB
   subst c33
   have H1 : ((impl_Val_rest.f a0_0 a0_1 a0_2 a0_3).bind fun bt469 => ((impl_Val_rest.f a1_0 a1_1 a1_2 a1_3).bind fun bt471 => ((impl_RestIn.f kj2 bt469.1 bt469.2 bt471.1 bt471.2).bind fun t473 => (some t473)))) = some r := by rw [if_pos rfl] at H; exact H
   clear H
   have H := H1
   clear H1
   replace H := sqbi H
   obtain ⟨⟨t469, t470⟩, A34, H⟩ := H
   replace H : ((impl_Val_rest.f a1_0 a1_1 a1_2 a1_3).bind fun bt471 => ((impl_RestIn.f kj2 t469 t470 bt471.1 bt471.2).bind fun t473 => (some t473))) = some r := H
   replace H := sqbi H
   obtain ⟨⟨t471, t472⟩, A35, H⟩ := H
   replace H : ((impl_RestIn.f kj2 t469 t470 t471 t472).bind fun t473 => (some t473)) = some r := H
   replace H := sqbi H
   obtain ⟨t473, A36, H⟩ := H
   replace H : (some t473) = some r := H
   obtain rfl := Option.some.inj H
   have hnb37 := NB458_459.out
   have hnc37 := NB459_458.out
   obtain ⟨hcz38_0, hcz38_1, hcz38_2, hcz38_3, hfz38_0, hfz38_1, hfz38_2, hfz38_3⟩ := sqc4 BK458
   try go_wp2_with (first | ((with_reducible refine gate_callee (f := 144) rfl ?_); refine sqL (some 14) Try.func144 #[.agg #[.int .i64 a0_0, .int .i64 a0_1, .int .i64 a0_2, .int .i64 a0_3]] ?_; (with_reducible refine (impl_Val_none.calls a0_0 a0_1 a0_2 a0_3 false _ A18.out).mono ?_); rintro e w39 ⟨rfl, hb⟩; refine ⟨_, rfl, ?_⟩; refine sqM2 BK458 BK459 hb ?_; clear BK458 BK459; intro BK458 BK459; replace HB := sqs HB hb; (try clear hb)))
   replace BK458 := Aside0.mk (blk_drew BK458.out)
   replace BK459 := Aside0.mk (blk_drew BK459.out)
   replace HB := Aside0.mk (below_drew1 HB.out)
   refine start_ (n := 18) (S := fun w' => w'.cell? ⟨gb459, 0, none⟩ = some (.int .i64 a1_0) ∧ w'.cell? ⟨gb459, 1, none⟩ = some (.int .i64 a1_1) ∧ w'.cell? ⟨gb459, 2, none⟩ = some (.int .i64 a1_2) ∧ w'.cell? ⟨gb459, 3, none⟩ = some (.int .i64 a1_3) ∧ w'.cell? ⟨gb458, 0, none⟩ = some (.int .i64 a0_0) ∧ w'.cell? ⟨gb458, 1, none⟩ = some (.int .i64 a0_1) ∧ w'.cell? ⟨gb458, 2, none⟩ = some (.int .i64 a0_2) ∧ w'.cell? ⟨gb458, 3, none⟩ = some (.int .i64 a0_3)) (ds := []) #[false, false, false, false, false, false, false, false, false, false, false, false, false, false, false, false, false, false] (by kernel_rfl) rfl rfl sqz (fun hHeld => ?_); refine with_tabW impl_ValIn.tab5 impl_ValIn.bits5 (fun HT_ HW_ => ?_)
   generalize w39.drew = w40 at BK458 BK459 HB hHeld ⊢
   refine sqw HT_ HW_ 0 15 hHeld ?_
   refine sqo HT_ 1 16 (fun K hK => ?_)
   refine sqG Try.func144 #[.agg #[.int .i64 a1_0, .int .i64 a1_1, .int .i64 a1_2, .int .i64 a1_3]] ?_
   with_reducible refine (impl_Val_none.calls a1_0 a1_1 a1_2 a1_3 false _ A23.out).mono ?_
   rintro e w41 ⟨rfl, hb⟩
   refine ⟨_, rfl, ?_⟩
   refine sqM2 BK458 BK459 hb ?_; clear BK458 BK459; intro BK458 BK459
   replace HB := sqs HB hb
   (try clear hb)
   refine hK.out _ _ sqz (fun hHeld => ?_)
   clear hK K
   refine sqnm ?_
   refine sqp HT_ 2 17 ?_
   refine sqp HT_ 3 18 ?_
   refine sqw HT_ HW_ 4 19 hHeld ?_
   refine sqw HT_ HW_ 6 21 hHeld ?_
   refine sqo HT_ 5 20 (fun K hK => ?_)
   refine sqG Try.func103 #[.agg #[.int .i64 a0_0, .int .i64 a0_1, .int .i64 a0_2, .int .i64 a0_3]] ?_
   with_reducible refine (impl_Val_span.calls a0_0 a0_1 a0_2 a0_3 t464 t465 _ A30.out).mono ?_
   rintro e w42 ⟨rfl, hb⟩
   refine ⟨_, rfl, ?_⟩
   refine sqM2 BK458 BK459 hb ?_; clear BK458 BK459; intro BK458 BK459
   replace HB := sqs HB hb
   (try clear hb)
   refine hK.out _ _ sqz (fun hHeld => ?_)
   clear hK K
   refine sqnm ?_
   refine sqo HT_ 7 22 (fun K hK => ?_)
   refine sqG Try.func103 #[.agg #[.int .i64 a1_0, .int .i64 a1_1, .int .i64 a1_2, .int .i64 a1_3]] ?_
   with_reducible refine (impl_Val_span.calls a1_0 a1_1 a1_2 a1_3 t466 t467 _ A31.out).mono ?_
   rintro e w43 ⟨rfl, hb⟩
   refine ⟨_, rfl, ?_⟩
   refine sqM2 BK458 BK459 hb ?_; clear BK458 BK459; intro BK458 BK459
   replace HB := sqs HB hb
   (try clear hb)
   refine hK.out _ _ sqz (fun hHeld => ?_)
   clear hK K
   refine sqnm ?_
   refine sqo HT_ 8 23 (fun K hK => ?_)
   refine sqG Try.func46 #[.agg #[.int .i64 t464, .int .i64 t465], .agg #[.int .i64 t466, .int .i64 t467]] ?_
   with_reducible refine (impl_RangeIn.calls t464 t465 t466 t467 true _ A32.out).mono ?_
   rintro e w44 ⟨rfl, hb⟩
   refine ⟨_, rfl, ?_⟩
   refine sqM2 BK458 BK459 hb ?_; clear BK458 BK459; intro BK458 BK459
   replace HB := sqs HB hb
   (try clear hb)
   refine hK.out _ _ sqz (fun hHeld => ?_)
   clear hK K
   refine sqnm ?_
   refine sqp HT_ 9 24 ?_
   refine sqp HT_ 10 25 ?_
   refine sqw HT_ HW_ 11 26 hHeld ?_
   refine sqw HT_ HW_ 13 28 hHeld ?_
   refine sqo HT_ 12 27 (fun K hK => ?_)
   refine sqG Try.func104 #[.agg #[.int .i64 a0_0, .int .i64 a0_1, .int .i64 a0_2, .int .i64 a0_3]] ?_
   with_reducible refine (impl_Val_rest.calls a0_0 a0_1 a0_2 a0_3 t469 t470 _ A34.out).mono ?_
   rintro e w45 ⟨rfl, hb⟩
   refine ⟨_, rfl, ?_⟩
   refine sqM2 BK458 BK459 hb ?_; clear BK458 BK459; intro BK458 BK459
   replace HB := sqs HB hb
   (try clear hb)
   refine hK.out _ _ sqz (fun hHeld => ?_)
   clear hK K
   refine sqnm ?_
   refine sqo HT_ 14 29 (fun K hK => ?_)
   refine sqG Try.func104 #[.agg #[.int .i64 a1_0, .int .i64 a1_1, .int .i64 a1_2, .int .i64 a1_3]] ?_
   with_reducible refine (impl_Val_rest.calls a1_0 a1_1 a1_2 a1_3 t471 t472 _ A35.out).mono ?_
   rintro e w46 ⟨rfl, hb⟩
   refine ⟨_, rfl, ?_⟩
   refine sqM2 BK458 BK459 hb ?_; clear BK458 BK459; intro BK458 BK459
   replace HB := sqs HB hb
   (try clear hb)
   refine hK.out _ _ sqz (fun hHeld => ?_)
   clear hK K
   refine sqnm ?_
   refine sqo HT_ 15 30 (fun K hK => ?_)
   refine sqG Try.func182 #[.agg #[.int .i64 t469, .int .i64 t470], .agg #[.int .i64 t471, .int .i64 t472]] ?_
   with_reducible refine (impl_RestIn.calls kj2 t469 t470 t471 t472 t473 _ A36.out).mono ?_
   rintro e w47 ⟨rfl, hb⟩
   refine ⟨_, rfl, ?_⟩
   refine sqM2 BK458 BK459 hb ?_; clear BK458 BK459; intro BK458 BK459
   replace HB := sqs HB hb
   (try clear hb)
   refine hK.out _ _ sqz (fun hHeld => ?_)
   clear hK K
   refine sqnm ?_
   refine sqp HT_ 16 31 ?_
   refine sqp HT_ 17 4 ?_
   refine done_ (done_of HT_.out (by kernel_rfl)) ?_
   try go_wp2
   go_ret
   exact sqe HB

end Go.Proofs.Ytkekcenlleebeaa.PFnExactAbsIn
