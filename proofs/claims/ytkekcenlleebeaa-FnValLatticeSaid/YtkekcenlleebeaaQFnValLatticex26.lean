/- Functions of the program as plain Lean functions, and that calls of them come to what these tell. Conditions: those in each law. -/
import Derived.Test.YtkekcenlleebeaaSq
import Derived.Test.YtkekcenlleebeaaDFnValLattice
import Derived.Test.YtkekcenlleebeaaQFnValLatticex0
import Derived.Test.YtkekcenlleebeaaQFnValLatticex5
import Derived.Test.YtkekcenlleebeaaQFnValLatticex12
import Derived.Test.YtkekcenlleebeaaQFnValLatticex20
import Derived.Test.YtkekcenlleebeaaQFnValLatticex21
import Derived.Test.YtkekcenlleebeaaQFnValLatticex25
namespace Go.Proofs.Ytkekcenlleebeaa.PFnValLattice
open Go.RowKit Go.Proofs.Ytkekcenlleebeaa.Sq Go.Proofs.YtkekcenlleebeaaW.PrintWords Go.Proofs.YtkekcenlleebeaaW.PrintLast Go.Proofs.YtkekcenlleebeaaW.PrintMore
attribute [local go_sem] max2_int min2_int max_two min_two max_three min_three max_four min_four   -- for this text's walks alone
set_option linter.unusedVariables false
set_option linter.unusedSimpArgs false

/-! ### impl_ValWiden: function 88 -/
def impl_ValWiden.T3 : Bool × List (List Nat × List Nat) := (true, [([], []), ([0], [0]), ([], []), ([2, 1], [2]), ([], []), ([1, 3, 4, 3], [1, 3, 4]), ([], []), ([6, 5], [6]), ([], []), ([8, 7], [8]), ([7, 9, 9], [7, 9]), ([5, 10, 10], [5, 10]), ([11, 11, 0, 1, 2, 3, 4, 5, 6, 7, 8, 9, 10, 11], [11])])
def impl_ValWiden.B3 : List Nat := [0, 1, 0, 7, 0, 31, 0, 127, 0, 511, 1023, 2047, 4095]
theorem impl_ValWiden.tab3 : rtab .any (opsOf Try.f88 3) = impl_ValWiden.T3 := by kernel_rfl
theorem impl_ValWiden.bits3 : waitsOk impl_ValWiden.T3.2 impl_ValWiden.B3 = true := by kernel_rfl
set_option maxHeartbeats 8000000 in
set_option maxRecDepth 100000 in
theorem impl_ValWiden.calls (k : Nat) (a0_0 : Int) (a0_1 : Int) (a0_2 : Int) (a0_3 : Int) (a1_0 : Int) (a1_1 : Int) (a1_2 : Int) (a1_3 : Int) (A2 : Option Addr) (c2 : Nat) (l2 : List Int) (r1 : Int) (r2 : Int) (r3 : Int) (r4 : Int) (w : World) (hr2 : Kd.C (Kd.int .i64) w A2 l2.length l2) (hc2 : l2.length ≤ c2) (h : impl_ValWiden.f k a0_0 a0_1 a0_2 a0_3 a1_0 a1_1 a1_2 a1_3 l2 = some (r1, r2, r3, r4)) :
  Calls Try.prog 88 #[.agg #[.int .i64 a0_0, .int .i64 a0_1, .int .i64 a0_2, .int .i64 a0_3], .agg #[.int .i64 a1_0, .int .i64 a1_1, .int .i64 a1_2, .int .i64 a1_3], .slice A2 l2.length c2] w fun e w' => e = .returned (.agg #[.int .i64 r1, .int .i64 r2, .int .i64 r3, .int .i64 r4]) ∧ Below w.heap.size w w' := by
 have hu30 := Try.underlying30
 have HR2 := Aside0.mk hr2
 have HC2 := Aside0.mk hc2
 clear hr2 hc2
 have HB := Aside0.mk (Below.refl w.heap.size w)
 have H := h
 unfold impl_ValWiden.f at H
 clear h
 have HC4 := Aside0.mk H
 clear H
 go_enter Try.func88, Try.ntmps88
 go_upto_region 1 with (first | ((with_reducible refine gate_dst (N := 3) rfl ?_); refine sqx 3 #[.int .i64 a0_0, .int .i64 a0_1, .int .i64 a0_2, .int .i64 a0_3] 30 ?_; intro gb634 hg w5 hbox hb; have BK634 := Aside0.mk hbox; have GW634 := sqg HB hg; replace HB := sqs HB hb; clear hb hbox hg) | ((with_reducible refine gate_dst (N := 4) rfl ?_); refine sqx 4 #[.int .i64 a1_0, .int .i64 a1_1, .int .i64 a1_2, .int .i64 a1_3] 30 ?_; intro gb635 hg w6 hbox hb; have BK635 := Aside0.mk hbox; have GW635 := sqg HB hg; have NB634_635 := sqn BK634 hg; have NB635_634 := sqm BK634 hg; replace BK634 := sqb BK634 hb; replace HB := sqs HB hb; clear hb hbox hg) | ((with_reducible refine gate_dst (N := 6) rfl ?_); refine sqx 6 #[.int .i64 0, .int .i64 0, .int .i64 0, .int .i64 0] 30 ?_; intro gb636 hg w7 hbox hb; have BK636 := Aside0.mk hbox; have GW636 := sqg HB hg; have NB634_636 := sqn BK634 hg; have NB636_634 := sqm BK634 hg; have NB635_636 := sqn BK635 hg; have NB636_635 := sqm BK635 hg; refine sqM2 BK634 BK635 hb ?_; clear BK634 BK635; intro BK634 BK635; replace HB := sqs HB hb; clear hb hbox hg))
 (try simp only [Act.put, List.setIfInBounds_toArray, List.set_cons_zero, List.set_cons_succ])
 go_cut [22] (fun v22 wc => ∃ (kq : Nat) (x22_3 : Bool), v22 = .bool x22_3 ∧ Aside0 (impl_ValWiden.j0 kq l2 x22_3 a0_0 a0_1 a0_2 a0_3 a1_0 a1_1 a1_2 a1_3 = some (r1, r2, r3, r4)) ∧ Aside0 (kq ≤ k) ∧ Aside0 (wc.heap[gb634]? = some (.cells #[.int .i64 a0_0, .int .i64 a0_1, .int .i64 a0_2, .int .i64 a0_3] 30 (0, 0))) ∧ Aside0 (wc.heap[gb635]? = some (.cells #[.int .i64 a1_0, .int .i64 a1_1, .int .i64 a1_2, .int .i64 a1_3] 30 (0, 0))) ∧ Aside0 (wc.heap[gb636]? = some (.cells #[.int .i64 0, .int .i64 0, .int .i64 0, .int .i64 0] 30 (0, 0))) ∧ Aside0 (Below w.heap.size w wc))
 case first =>
  have H := HC4.out
  clear HC4
  replace H := sqbi H
  obtain ⟨t637, A8, H⟩ := H
  try dsimp only at H
  rcases sqI (t637 = true) with c9 | c9
  ·replace c9 := Bool.eq_false_iff.mpr c9
   subst c9
   have H1 : (impl_ValWiden.j0 k l2 true a0_0 a0_1 a0_2 a0_3 a1_0 a1_1 a1_2 a1_3) = some (r1, r2, r3, r4) := by rw [if_neg (show ¬ (false = true) by decide)] at H; exact H
   clear H
   have H := H1
   clear H1
   have H' := Aside0.mk H
   clear H
   obtain ⟨_, _, _, _⟩ := sqN2 NB634_635 NB634_636
   obtain ⟨_, _, _, _, _, _, _, _⟩ := sqc4 BK634
   go_wp2_with (first | ((with_reducible refine gate_callee (f := 18) rfl ?_); refine sqL (some 8) Try.func18 #[.agg #[.int .i64 a0_0, .int .i64 a0_1, .int .i64 a0_2, .int .i64 a0_3]] ?_; (with_reducible refine (impl_ValOk.calls k a0_0 a0_1 a0_2 a0_3 false _ A8.out).mono ?_); rintro e w45 ⟨rfl, hb⟩; refine ⟨_, rfl, ?_⟩; refine sqM3 BK634 BK635 BK636 hb ?_; clear BK634 BK635 BK636; intro BK634 BK635 BK636; replace HB := sqs HB hb; (try clear hb)))
   go_meet
   case rel => exact ⟨_, (true), (by first | rfl | (simp; done) | (simp [*]; done)), H', ⟨by first | omega | exact Nat.le_refl _⟩, sqk BK634, sqk BK635, sqk BK636, sqh HB⟩
  subst c9
  have H1 : ((impl_ValOk.f k a1_0 a1_1 a1_2 a1_3).bind fun t638 => (if t638 = true then ((impl_Val_none.f a0_0 a0_1 a0_2 a0_3).bind fun t639 => (if t639 = true then (impl_ValWiden.j0 k l2 true a0_0 a0_1 a0_2 a0_3 a1_0 a1_1 a1_2 a1_3) else ((impl_Val_none.f a1_0 a1_1 a1_2 a1_3).bind fun t640 => (impl_ValWiden.j0 k l2 t640 a0_0 a0_1 a0_2 a0_3 a1_0 a1_1 a1_2 a1_3)))) else (impl_ValWiden.j0 k l2 true a0_0 a0_1 a0_2 a0_3 a1_0 a1_1 a1_2 a1_3))) = some (r1, r2, r3, r4) := by rw [if_pos rfl] at H; exact H
  clear H
  have H := H1
  clear H1
  replace H := sqbi H
  obtain ⟨t638, A10, H⟩ := H
  try dsimp only at H
  rcases sqI (t638 = true) with c11 | c11
  ·replace c11 := Bool.eq_false_iff.mpr c11
   subst c11
   have H1 : (impl_ValWiden.j0 k l2 true a0_0 a0_1 a0_2 a0_3 a1_0 a1_1 a1_2 a1_3) = some (r1, r2, r3, r4) := by rw [if_neg (show ¬ (false = true) by decide)] at H; exact H
   clear H
   have H := H1
   clear H1
   have H' := Aside0.mk H
   clear H
   obtain ⟨_, _, _, _⟩ := sqN2 NB634_635 NB634_636
   obtain ⟨_, _, _, _, _, _, _, _⟩ := sqc4 BK634
   go_wp2_with (first | ((with_reducible refine gate_callee (f := 18) rfl ?_); refine sqL (some 8) Try.func18 #[.agg #[.int .i64 a0_0, .int .i64 a0_1, .int .i64 a0_2, .int .i64 a0_3]] ?_; (with_reducible refine (impl_ValOk.calls k a0_0 a0_1 a0_2 a0_3 true _ A8.out).mono ?_); rintro e w38 ⟨rfl, hb⟩; refine ⟨_, rfl, ?_⟩; refine sqM3 BK634 BK635 BK636 hb ?_; clear BK634 BK635 BK636; intro BK634 BK635 BK636; replace HB := sqs HB hb; (try clear hb); obtain ⟨_, _⟩ := sqN1 NB635_636; obtain ⟨_, _, _, _, _, _, _, _⟩ := sqc4 BK635) | (go_at_call 18; (with_reducible refine (impl_ValOk.calls k a1_0 a1_1 a1_2 a1_3 false _ A10.out).mono ?_); rintro e w41 ⟨rfl, hb⟩; refine sqM3 BK634 BK635 BK636 hb ?_; clear BK634 BK635 BK636; intro BK634 BK635 BK636; replace HB := sqs HB hb; (try clear hb)))
   go_meet
   case rel => exact ⟨_, (true), (by first | rfl | (simp; done) | (simp [*]; done)), H', ⟨by first | omega | exact Nat.le_refl _⟩, sqk BK634, sqk BK635, sqk BK636, sqh HB⟩
  subst c11
  have H1 : ((impl_Val_none.f a0_0 a0_1 a0_2 a0_3).bind fun t639 => (if t639 = true then (impl_ValWiden.j0 k l2 true a0_0 a0_1 a0_2 a0_3 a1_0 a1_1 a1_2 a1_3) else ((impl_Val_none.f a1_0 a1_1 a1_2 a1_3).bind fun t640 => (impl_ValWiden.j0 k l2 t640 a0_0 a0_1 a0_2 a0_3 a1_0 a1_1 a1_2 a1_3)))) = some (r1, r2, r3, r4) := by rw [if_pos rfl] at H; exact H
  clear H
  have H := H1
  clear H1
  replace H := sqbi H
  obtain ⟨t639, A12, H⟩ := H
  try dsimp only at H
  by_cases c13 : t639 = true
  ·subst c13
   have H1 : (impl_ValWiden.j0 k l2 true a0_0 a0_1 a0_2 a0_3 a1_0 a1_1 a1_2 a1_3) = some (r1, r2, r3, r4) := by rw [if_pos rfl] at H; exact H
   clear H
   have H := H1
   clear H1
   have H' := Aside0.mk H
   clear H
   obtain ⟨_, _, _, _⟩ := sqN2 NB634_635 NB634_636
   obtain ⟨_, _, _, _, _, _, _, _⟩ := sqc4 BK634
   go_wp2_with (first | ((with_reducible refine gate_callee (f := 18) rfl ?_); refine sqL (some 8) Try.func18 #[.agg #[.int .i64 a0_0, .int .i64 a0_1, .int .i64 a0_2, .int .i64 a0_3]] ?_; (with_reducible refine (impl_ValOk.calls k a0_0 a0_1 a0_2 a0_3 true _ A8.out).mono ?_); rintro e w17 ⟨rfl, hb⟩; refine ⟨_, rfl, ?_⟩; refine sqM3 BK634 BK635 BK636 hb ?_; clear BK634 BK635 BK636; intro BK634 BK635 BK636; replace HB := sqs HB hb; (try clear hb); obtain ⟨_, _⟩ := sqN1 NB635_636; obtain ⟨_, _, _, _, _, _, _, _⟩ := sqc4 BK635) | (go_at_call 18; (with_reducible refine (impl_ValOk.calls k a1_0 a1_1 a1_2 a1_3 true _ A10.out).mono ?_); rintro e w20 ⟨rfl, hb⟩; refine sqM3 BK634 BK635 BK636 hb ?_; clear BK634 BK635 BK636; intro BK634 BK635 BK636; replace HB := sqs HB hb; (try clear hb); obtain ⟨_, _, _, _, _, _, _, _⟩ := sqc4 BK634) | (go_at_call 144; (with_reducible refine (impl_Val_none.calls a0_0 a0_1 a0_2 a0_3 true _ A12.out).mono ?_); rintro e w22 ⟨rfl, hb⟩; refine sqM3 BK634 BK635 BK636 hb ?_; clear BK634 BK635 BK636; intro BK634 BK635 BK636; replace HB := sqs HB hb; (try clear hb)))
   go_meet
   case rel => exact ⟨_, (true), (by first | rfl | (simp; done) | (simp [*]; done)), H', ⟨by first | omega | exact Nat.le_refl _⟩, sqk BK634, sqk BK635, sqk BK636, sqh HB⟩
  replace c13 := Bool.eq_false_iff.mpr c13
  subst c13
  have H1 : ((impl_Val_none.f a1_0 a1_1 a1_2 a1_3).bind fun t640 => (impl_ValWiden.j0 k l2 t640 a0_0 a0_1 a0_2 a0_3 a1_0 a1_1 a1_2 a1_3)) = some (r1, r2, r3, r4) := by rw [if_neg (show ¬ (false = true) by decide)] at H; exact H
  clear H
  have H := H1
  clear H1
  replace H := sqbi H
  obtain ⟨t640, A23, H⟩ := H
  try dsimp only at H
  have H' := Aside0.mk H
  clear H
  obtain ⟨_, _, _, _⟩ := sqN2 NB634_635 NB634_636
  obtain ⟨_, _, _, _, _, _, _, _⟩ := sqc4 BK634
  go_wp2_with (first | ((with_reducible refine gate_callee (f := 18) rfl ?_); refine sqL (some 8) Try.func18 #[.agg #[.int .i64 a0_0, .int .i64 a0_1, .int .i64 a0_2, .int .i64 a0_3]] ?_; (with_reducible refine (impl_ValOk.calls k a0_0 a0_1 a0_2 a0_3 true _ A8.out).mono ?_); rintro e w27 ⟨rfl, hb⟩; refine ⟨_, rfl, ?_⟩; refine sqM3 BK634 BK635 BK636 hb ?_; clear BK634 BK635 BK636; intro BK634 BK635 BK636; replace HB := sqs HB hb; (try clear hb); obtain ⟨_, _⟩ := sqN1 NB635_636; obtain ⟨_, _, _, _, _, _, _, _⟩ := sqc4 BK635) | (go_at_call 18; (with_reducible refine (impl_ValOk.calls k a1_0 a1_1 a1_2 a1_3 true _ A10.out).mono ?_); rintro e w30 ⟨rfl, hb⟩; refine sqM3 BK634 BK635 BK636 hb ?_; clear BK634 BK635 BK636; intro BK634 BK635 BK636; replace HB := sqs HB hb; (try clear hb); obtain ⟨_, _, _, _, _, _, _, _⟩ := sqc4 BK634) | (go_at_call 144; (with_reducible refine (impl_Val_none.calls a0_0 a0_1 a0_2 a0_3 false _ A12.out).mono ?_); rintro e w32 ⟨rfl, hb⟩; refine sqM3 BK634 BK635 BK636 hb ?_; clear BK634 BK635 BK636; intro BK634 BK635 BK636; replace HB := sqs HB hb; (try clear hb); obtain ⟨_, _, _, _, _, _, _, _⟩ := sqc4 BK635) | (go_at_call 144; (with_reducible refine (impl_Val_none.calls a1_0 a1_1 a1_2 a1_3 t640 _ A23.out).mono ?_); rintro e w34 ⟨rfl, hb⟩; refine sqM3 BK634 BK635 BK636 hb ?_; clear BK634 BK635 BK636; intro BK634 BK635 BK636; replace HB := sqs HB hb; (try clear hb)))
  go_meet
  case rel => exact ⟨_, (t640), (by first | rfl | (simp; done) | (simp [*]; done)), H', ⟨by first | omega | exact Nat.le_refl _⟩, sqk BK634, sqk BK635, sqk BK636, sqh HB⟩
 case rest =>
  clear HC4
  obtain ⟨kq, x22_3, rfl, HA, HJ3, BK634, BK635, BK636, HB⟩ := hcut
  cases kq with
  | zero => exact absurd HA.out (by simp [impl_ValWiden.j0])
  | succ kj3 =>
   have H := HA.out
   clear HA
   simp only [impl_ValWiden.j0] at H
   by_cases c46 : x22_3 = true
   ·subst c46
    have H1 : ((impl_ValJoin.f kj3 a0_0 a0_1 a0_2 a0_3 a1_0 a1_1 a1_2 a1_3).bind fun bt641 => (some (bt641.1, bt641.2.1, bt641.2.2.1, bt641.2.2.2))) = some (r1, r2, r3, r4) := by rw [if_pos rfl] at H; exact H
    clear H
    have H := H1
    clear H1
    replace H := sqbi H
    obtain ⟨⟨t641, t642, t643, t644⟩, A47, H⟩ := H
    try dsimp only at H
    simp only [Option.some.injEq, Prod.mk.injEq] at H
    obtain ⟨rfl, rfl, rfl, rfl⟩ := H
    obtain ⟨_, _, _, _⟩ := sqN2 NB634_635 NB634_636
    obtain ⟨_, _, _, _, _, _, _, _⟩ := sqc4 BK634
    obtain ⟨_, _⟩ := sqN1 NB635_636
    obtain ⟨_, _, _, _, _, _, _, _⟩ := sqc4 BK635
    go_wp2_with (first | ((with_reducible refine gate_callee (f := 86) rfl ?_); refine sqL (some 25) Try.func86 #[.agg #[.int .i64 a0_0, .int .i64 a0_1, .int .i64 a0_2, .int .i64 a0_3], .agg #[.int .i64 a1_0, .int .i64 a1_1, .int .i64 a1_2, .int .i64 a1_3]] ?_; (with_reducible refine (impl_ValJoin.calls kj3 a0_0 a0_1 a0_2 a0_3 a1_0 a1_1 a1_2 a1_3 t641 t642 t643 t644 _ A47.out).mono ?_); rintro e w53 ⟨rfl, hb⟩; refine ⟨_, rfl, ?_⟩; refine sqM3 BK634 BK635 BK636 hb ?_; clear BK634 BK635 BK636; intro BK634 BK635 BK636; replace HB := sqs HB hb; (try clear hb); obtain ⟨_, _, _, _, _, _, _, _⟩ := sqc4 BK636))
    refine bodyPost_ret (results_cell_row rfl _ _ gb636 30 #[.int .i64 t641, .int .i64 t642, .int .i64 t643, .int .i64 t644] (0, 0) _ rfl (sqP BK636) Try.underlying30 rfl (by kernel_rfl)) rfl ?_
    exact sqe HB
   replace c46 := Bool.eq_false_iff.mpr c46
   subst c46
   have H1 : ((impl_Val_span.f a0_0 a0_1 a0_2 a0_3).bind fun bt645 => ((impl_Val_span.f a1_0 a1_1 a1_2 a1_3).bind fun bt647 => ((impl_RangeWiden.f kj3 bt645.1 bt645.2 bt647.1 bt647.2 l2).bind fun bt649 => ((impl_Val_rest.f a0_0 a0_1 a0_2 a0_3).bind fun bt651 => ((impl_Val_rest.f a1_0 a1_1 a1_2 a1_3).bind fun bt653 => ((impl_RestJoin.f kj3 bt651.1 bt651.2 bt653.1 bt653.2).bind fun bt655 => ((impl_ValMake.f kj3 bt649.1 bt649.2 bt655.1 bt655.2).bind fun bt657 => (some (bt657.1, bt657.2.1, bt657.2.2.1, bt657.2.2.2))))))))) = some (r1, r2, r3, r4) := by rw [if_neg (show ¬ (false = true) by decide)] at H; exact H
   clear H
   have H := H1
   clear H1
   replace H := sqbi H
   obtain ⟨⟨t645, t646⟩, A55, H⟩ := H
   try dsimp only at H
   replace H := sqbi H
   obtain ⟨⟨t647, t648⟩, A56, H⟩ := H
   try dsimp only at H
   replace H := sqbi H
   obtain ⟨⟨t649, t650⟩, A57, H⟩ := H
   try dsimp only at H
   replace H := sqbi H
   obtain ⟨⟨t651, t652⟩, A58, H⟩ := H
   try dsimp only at H
   replace H := sqbi H
   obtain ⟨⟨t653, t654⟩, A59, H⟩ := H
   try dsimp only at H
   replace H := sqbi H
   obtain ⟨⟨t655, t656⟩, A60, H⟩ := H
   try dsimp only at H
   replace H := sqbi H
   obtain ⟨⟨t657, t658, t659, t660⟩, A61, H⟩ := H
   try dsimp only at H
   simp only [Option.some.injEq, Prod.mk.injEq] at H
   obtain ⟨rfl, rfl, rfl, rfl⟩ := H
   try go_wp2
   replace BK634 := sqdr BK634
   replace BK635 := sqdr BK635
   replace BK636 := sqdr BK636
   replace HB := sqdB HB
   refine sqst 13 (fun w' => w'.cell? ⟨gb634, 0, none⟩ = some (.int .i64 a0_0) ∧ w'.cell? ⟨gb634, 1, none⟩ = some (.int .i64 a0_1) ∧ w'.cell? ⟨gb634, 2, none⟩ = some (.int .i64 a0_2) ∧ w'.cell? ⟨gb634, 3, none⟩ = some (.int .i64 a0_3) ∧ w'.cell? ⟨gb635, 0, none⟩ = some (.int .i64 a1_0) ∧ w'.cell? ⟨gb635, 1, none⟩ = some (.int .i64 a1_1) ∧ w'.cell? ⟨gb635, 2, none⟩ = some (.int .i64 a1_2) ∧ w'.cell? ⟨gb635, 3, none⟩ = some (.int .i64 a1_3)) sqz (fun hHeld => ?_); refine with_tabW impl_ValWiden.tab3 impl_ValWiden.bits3 (fun HT_ HW_ => ?_)
   generalize wc.drew = w62 at BK634 BK635 BK636 HB hHeld ⊢
   refine sqp HT_ 4 30 ?_
   refine sqw HT_ HW_ 0 26 hHeld ?_
   refine sqw HT_ HW_ 2 28 hHeld ?_
   refine sqw HT_ HW_ 6 32 hHeld ?_
   refine sqw HT_ HW_ 8 34 hHeld ?_
   refine sqo HT_ 1 27 (fun K hK => ?_)
   refine sqG Try.func103 #[.agg #[.int .i64 a0_0, .int .i64 a0_1, .int .i64 a0_2, .int .i64 a0_3]] ?_
   with_reducible refine (impl_Val_span.calls a0_0 a0_1 a0_2 a0_3 t645 t646 _ A55.out).mono ?_
   rintro e w63 ⟨rfl, hb⟩
   refine ⟨_, rfl, ?_⟩
   refine sqM3 BK634 BK635 BK636 hb ?_; clear BK634 BK635 BK636; intro BK634 BK635 BK636
   replace HB := sqs HB hb
   (try clear hb)
   refine hK.out _ _ sqz (fun hHeld => ?_)
   clear hK K
   refine sqnm ?_
   refine sqo HT_ 3 29 (fun K hK => ?_)
   refine sqG Try.func103 #[.agg #[.int .i64 a1_0, .int .i64 a1_1, .int .i64 a1_2, .int .i64 a1_3]] ?_
   with_reducible refine (impl_Val_span.calls a1_0 a1_1 a1_2 a1_3 t647 t648 _ A56.out).mono ?_
   rintro e w64 ⟨rfl, hb⟩
   refine ⟨_, rfl, ?_⟩
   refine sqM3 BK634 BK635 BK636 hb ?_; clear BK634 BK635 BK636; intro BK634 BK635 BK636
   replace HB := sqs HB hb
   (try clear hb)
   refine hK.out _ _ sqz (fun hHeld => ?_)
   clear hK K
   refine sqnm ?_
   refine sqo HT_ 5 31 (fun K hK => ?_)
   refine sqG Try.func187 #[.agg #[.int .i64 t645, .int .i64 t646], .agg #[.int .i64 t647, .int .i64 t648], .slice A2 l2.length c2] ?_
   with_reducible refine (impl_RangeWiden.calls kj3 t645 t646 t647 t648 _ _ l2 t649 t650 _ ?side1 ?side2 A57.out).mono ?_
   (case side1 => exact sqC (Kd.C_below HR2.out HB.out))
   (case side2 => exact HC2.out)
   rintro e w65 ⟨rfl, hb⟩
   refine ⟨_, rfl, ?_⟩
   refine sqM3 BK634 BK635 BK636 hb ?_; clear BK634 BK635 BK636; intro BK634 BK635 BK636
   replace HB := sqs HB hb
   (try clear hb)
   refine hK.out _ _ sqz (fun hHeld => ?_)
   clear hK K
   refine sqnm ?_
   refine sqo HT_ 7 33 (fun K hK => ?_)
   refine sqG Try.func104 #[.agg #[.int .i64 a0_0, .int .i64 a0_1, .int .i64 a0_2, .int .i64 a0_3]] ?_
   with_reducible refine (impl_Val_rest.calls a0_0 a0_1 a0_2 a0_3 t651 t652 _ A58.out).mono ?_
   rintro e w66 ⟨rfl, hb⟩
   refine ⟨_, rfl, ?_⟩
   refine sqM3 BK634 BK635 BK636 hb ?_; clear BK634 BK635 BK636; intro BK634 BK635 BK636
   replace HB := sqs HB hb
   (try clear hb)
   refine hK.out _ _ sqz (fun hHeld => ?_)
   clear hK K
   refine sqnm ?_
   refine sqo HT_ 9 35 (fun K hK => ?_)
   refine sqG Try.func104 #[.agg #[.int .i64 a1_0, .int .i64 a1_1, .int .i64 a1_2, .int .i64 a1_3]] ?_
   with_reducible refine (impl_Val_rest.calls a1_0 a1_1 a1_2 a1_3 t653 t654 _ A59.out).mono ?_
   rintro e w67 ⟨rfl, hb⟩
   refine ⟨_, rfl, ?_⟩
   refine sqM3 BK634 BK635 BK636 hb ?_; clear BK634 BK635 BK636; intro BK634 BK635 BK636
   replace HB := sqs HB hb
   (try clear hb)
   refine hK.out _ _ sqz (fun hHeld => ?_)
   clear hK K
   refine sqnm ?_
   refine sqo HT_ 10 36 (fun K hK => ?_)
   refine sqG Try.func185 #[.agg #[.int .i64 t651, .int .i64 t652], .agg #[.int .i64 t653, .int .i64 t654]] ?_
   with_reducible refine (impl_RestJoin.calls kj3 t651 t652 t653 t654 t655 t656 _ A60.out).mono ?_
   rintro e w68 ⟨rfl, hb⟩
   refine ⟨_, rfl, ?_⟩
   refine sqM3 BK634 BK635 BK636 hb ?_; clear BK634 BK635 BK636; intro BK634 BK635 BK636
   replace HB := sqs HB hb
   (try clear hb)
   refine hK.out _ _ sqz (fun hHeld => ?_)
   clear hK K
   refine sqnm ?_
   refine sqo HT_ 11 37 (fun K hK => ?_)
   refine sqG Try.func16 #[.agg #[.int .i64 t649, .int .i64 t650], .agg #[.int .i64 t655, .int .i64 t656]] ?_
   with_reducible refine (impl_ValMake.calls kj3 t649 t650 t655 t656 t657 t658 t659 t660 _ A61.out).mono ?_
   rintro e w69 ⟨rfl, hb⟩
   refine ⟨_, rfl, ?_⟩
   refine sqM3 BK634 BK635 BK636 hb ?_; clear BK634 BK635 BK636; intro BK634 BK635 BK636
   replace HB := sqs HB hb
   (try clear hb)
   refine hK.out _ _ sqz (fun hHeld => ?_)
   clear hK K
   refine sqnm ?_
   refine one_ (i := 12) (N := none) #[true, true, true, true, true, true, true, true, true, true, true, true, true] rfl rfl (one_of HT_.out (by kernel_rfl)) (by decide) (fun K hK => ?_)
   have hs70 : w69.cell? ⟨gb636, 0, none⟩ = some (.int .i64 0) := (blk_cell BK636.out 0).trans rfl
   have hfs70 := blk_frozen BK636.out 0
   have hns70_0 := NB634_636.out
   have hns70_1 := NB635_636.out
   have hms70_0 := NB636_634.out
   have hms70_1 := NB636_635.out
   have hs71 : w69.cell? ⟨gb636, 1, none⟩ = some (.int .i64 0) := (blk_cell BK636.out 1).trans rfl
   have hfs71 := blk_frozen BK636.out 1
   have hns71_0 := NB634_636.out
   have hns71_1 := NB635_636.out
   have hms71_0 := NB636_634.out
   have hms71_1 := NB636_635.out
   have hs72 : w69.cell? ⟨gb636, 2, none⟩ = some (.int .i64 0) := (blk_cell BK636.out 2).trans rfl
   have hfs72 := blk_frozen BK636.out 2
   have hns72_0 := NB634_636.out
   have hns72_1 := NB635_636.out
   have hms72_0 := NB636_634.out
   have hms72_1 := NB636_635.out
   have hs73 : w69.cell? ⟨gb636, 3, none⟩ = some (.int .i64 0) := (blk_cell BK636.out 3).trans rfl
   have hfs73 := blk_frozen BK636.out 3
   have hns73_0 := NB634_636.out
   have hns73_1 := NB635_636.out
   have hms73_0 := NB636_634.out
   have hms73_1 := NB636_635.out
   refine skip_ (w1 := ?_) (by rfl) rfl ?_ ?_
   rotate_left
   ·go_simp
    rfl
   refine hK.out _ _ ⟨(sqfa NB634_636 ((sqfa NB634_636 ((sqfa NB634_636 ((sqfa NB634_636 (hHeld.1)))))))), (sqfa NB634_636 ((sqfa NB634_636 ((sqfa NB634_636 ((sqfa NB634_636 (hHeld.2.1)))))))), (sqfa NB634_636 ((sqfa NB634_636 ((sqfa NB634_636 ((sqfa NB634_636 (hHeld.2.2.1)))))))), (sqfa NB634_636 ((sqfa NB634_636 ((sqfa NB634_636 ((sqfa NB634_636 (hHeld.2.2.2.1)))))))), (sqfa NB635_636 ((sqfa NB635_636 ((sqfa NB635_636 ((sqfa NB635_636 (hHeld.2.2.2.2.1)))))))), (sqfa NB635_636 ((sqfa NB635_636 ((sqfa NB635_636 ((sqfa NB635_636 (hHeld.2.2.2.2.2.1)))))))), (sqfa NB635_636 ((sqfa NB635_636 ((sqfa NB635_636 ((sqfa NB635_636 (hHeld.2.2.2.2.2.2.1)))))))), (sqfa NB635_636 ((sqfa NB635_636 ((sqfa NB635_636 ((sqfa NB635_636 (hHeld.2.2.2.2.2.2.2))))))))⟩ (fun hHeld => ?_)
   clear hK K
   refine done_ (done_of HT_.out (by kernel_rfl)) ?_
   try go_wp2
   refine bodyPost_ret (results_cell_row rfl _ _ gb636 30 #[.int .i64 t657, .int .i64 t658, .int .i64 t659, .int .i64 t660] (0, 0) _ rfl (sqP BK636) Try.underlying30 rfl (by kernel_rfl)) rfl ?_
   exact sqe HB

end Go.Proofs.Ytkekcenlleebeaa.PFnValLattice
