/- Functions of the program as plain Lean functions, and that calls of them come to what these tell. Conditions: those in each law. -/
import Derived.Test.YtnmgckdgmplddaaSq
import Derived.Test.YtnmgckdgmplddaaDFnExactAbsHas
import Derived.Test.YtnmgckdgmplddaaQFnExactAbsHasx0
import Derived.Test.YtnmgckdgmplddaaQFnExactAbsHasx1
import Derived.Test.YtnmgckdgmplddaaQFnExactAbsHasx16
import Derived.Test.YtnmgckdgmplddaaQFnExactAbsHasx17
namespace Go.Proofs.Ytnmgckdgmplddaa.PFnExactAbsHas
open Go.RowKit Go.Proofs.Ytnmgckdgmplddaa.Sq Go.Proofs.YtnmgckdgmplddaaW.PrintWords Go.Proofs.YtnmgckdgmplddaaW.PrintLast Go.Proofs.YtnmgckdgmplddaaW.PrintMore
attribute [local go_sem] max2_int min2_int max_two min_two max_three min_three max_four min_four   -- for this text's walks alone
set_option linter.unusedVariables false
set_option linter.unusedSimpArgs false

attribute [local go_sem high] eqA60
/-! ### impl_restMod: function 77 -/
set_option maxHeartbeats 8000000 in
set_option maxRecDepth 100000 in
theorem impl_restMod.calls (a0 : Int) (a1 : Int) (r : Int) (w : World) (h : impl_restMod.f a0 a1 = some r) :
  Calls Try.prog 77 #[.int .i64 a0, .int .i64 a1] w fun e w' => e = .returned (.int .i64 r) ∧ Drawn0 w w' := by
 have H := h
 unfold impl_restMod.f at H
 clear h
 replace H := sqj H
 rcases H with ⟨c3, H⟩ | ⟨c3, H⟩
 ·exact absurd H (by simp)
 have c3b0 : (a1 == 0) = false := beq_eq_false_iff_ne.mpr c3
 have c3b1 : (a1 != 0) = true := bne_iff_ne.mpr c3
 replace H := sqj H
 rcases H with ⟨c4, H⟩ | ⟨c4, H⟩
 ·have c4b0 := decide_eq_true c4
  clear c4
  obtain rfl := Option.some.inj H
  go_enter Try.func77, Try.ntmps77
  go_wp2
  go_ret
  exact ⟨by first | rfl | (simp; done) | (simp [*]; done), by repeat (first | exact Drawn0.refl _ | apply Drawn0.step)⟩
 have c4b0 := decide_eq_false c4
 clear c4
 obtain rfl := Option.some.inj H
 go_enter Try.func77, Try.ntmps77
 go_wp2
 go_ret
 exact ⟨by first | rfl | (simp; done) | (simp [*]; done), by repeat (first | exact Drawn0.refl _ | apply Drawn0.step)⟩

/-! ### impl_Range_empty: function 80 -/
set_option maxHeartbeats 8000000 in
set_option maxRecDepth 100000 in
theorem impl_Range_empty.calls (a0_0 : Int) (a0_1 : Int) (r : Bool) (w : World) (h : impl_Range_empty.f a0_0 a0_1 = some r) :
  Calls Try.prog 80 #[.agg #[.int .i64 a0_0, .int .i64 a0_1]] w fun e w' => e = .returned (.bool r) ∧ Below w.heap.size w w' := by
 have hu92 := Try.underlying92
 have HB := Aside0.mk (Below.refl w.heap.size w)
 have H := h
 unfold impl_Range_empty.f at H
 clear h
 obtain rfl := Option.some.inj H
 go_enter Try.func80, Try.ntmps80
 go_wp2_with (first | ((with_reducible refine gate_dst (N := 1) rfl ?_); refine sqx 1 #[.int .i64 a0_0, .int .i64 a0_1] 92 ?_; intro gb362 hg w2 hbox hb; have BK362 := Aside0.mk hbox; have GW362 := sqg HB hg; have GE362 := sqg HB hg; replace HB := sqs HB hb; clear hb hbox hg; obtain ⟨hcz3_0, hcz3_1, hfz3_0, hfz3_1⟩ := sqc2 BK362))
 go_ret
 exact sqe HB

/-! ### impl_valOne: function 81 -/
set_option maxHeartbeats 8000000 in
set_option maxRecDepth 100000 in
theorem impl_valOne.calls (a0 : Int) (r1 : Int) (r2 : Int) (r3 : Int) (r4 : Int) (w : World) (h : impl_valOne.f a0 = some (r1, r2, r3, r4)) :
  Calls Try.prog 81 #[.int .i64 a0] w fun e w' => e = .returned (.agg #[.int .i64 r1, .int .i64 r2, .int .i64 r3, .int .i64 r4]) ∧ Below w.heap.size w w' := by
 have hu60 := Try.underlying60
 have HB := Aside0.mk (Below.refl w.heap.size w)
 have H := h
 unfold impl_valOne.f at H
 clear h
 simp only [Option.some.injEq, Prod.mk.injEq] at H
 obtain ⟨rfl, rfl, rfl, rfl⟩ := H
 go_enter Try.func81, Try.ntmps81
 go_wp2_with (first | ((with_reducible refine gate_dst (N := 2) rfl ?_); refine sqx 2 #[.int .i64 0, .int .i64 0, .int .i64 0, .int .i64 0] 60 ?_; intro gb363 hg w2 hbox hb; have BK363 := Aside0.mk hbox; have GW363 := sqg HB hg; have GE363 := sqg HB hg; replace HB := sqs HB hb; clear hb hbox hg; obtain ⟨hcz3_0, hcz3_1, hcz3_2, hcz3_3, hfz3_0, hfz3_1, hfz3_2, hfz3_3⟩ := sqc4 BK363))
 refine bodyPost_ret (results_cell_row rfl _ _ gb363 60 #[.int .i64 a0, .int .i64 a0, .int .i64 0, .int .i64 a0] (0, 0) _ rfl (by refine sqt ?_; refine blk_put (cs := #[.int .i64 a0, .int .i64 a0, .int .i64 0, .int .i64 0]) ?_ 3 _ rfl; refine sqt ?_; refine blk_put (cs := #[.int .i64 a0, .int .i64 a0, .int .i64 0, .int .i64 0]) ?_ 2 _ rfl; refine sqt ?_; refine blk_put (cs := #[.int .i64 a0, .int .i64 0, .int .i64 0, .int .i64 0]) ?_ 1 _ rfl; refine sqt ?_; refine blk_put (cs := #[.int .i64 0, .int .i64 0, .int .i64 0, .int .i64 0]) ?_ 0 _ rfl; refine sqt ?_; exact BK363.out) Try.underlying60 rfl (by kernel_rfl)) rfl ?_
 exact sqe HB

/-! ### impl_ValMake: function 74 -/
set_option maxHeartbeats 8000000 in
set_option maxRecDepth 100000 in
theorem impl_ValMake.calls (k : Nat) (a0_0 : Int) (a0_1 : Int) (a1_0 : Int) (a1_1 : Int) (r1 : Int) (r2 : Int) (r3 : Int) (r4 : Int) (w : World) (h : impl_ValMake.f k a0_0 a0_1 a1_0 a1_1 = some (r1, r2, r3, r4)) :
  Calls Try.prog 74 #[.agg #[.int .i64 a0_0, .int .i64 a0_1], .agg #[.int .i64 a1_0, .int .i64 a1_1]] w fun e w' => e = .returned (.agg #[.int .i64 r1, .int .i64 r2, .int .i64 r3, .int .i64 r4]) ∧ Below w.heap.size w w' := by
 have hu92 := Try.underlying92
 have hu96 := Try.underlying96
 have hu60 := Try.underlying60
 have HB := Aside0.mk (Below.refl w.heap.size w)
 have H := h
 unfold impl_ValMake.f at H
 clear h
 have HC3 := Aside0.mk H
 clear H
 go_enter Try.func74, Try.ntmps74
 go_upto_region 1 with (first | ((with_reducible refine gate_dst (N := 2) rfl ?_); refine sqx 2 #[.int .i64 a0_0, .int .i64 a0_1] 92 ?_; intro gb364 hg w4 hbox hb; have BK364 := Aside0.mk hbox; have GW364 := sqg HB hg; have GE364 := sqg HB hg; replace HB := sqs HB hb; clear hb hbox hg) | ((with_reducible refine gate_dst (N := 3) rfl ?_); refine sqx 3 #[.int .i64 a1_0, .int .i64 a1_1] 96 ?_; intro gb365 hg w5 hbox hb; have BK365 := Aside0.mk hbox; have GW365 := sqg HB hg; have GE365 := sqg HB hg; have NB364_365 := sqn BK364 hg; have NB365_364 := sqm BK364 hg; replace BK364 := sqb BK364 hb; replace HB := sqs HB hb; clear hb hbox hg) | ((with_reducible refine gate_dst (N := 4) rfl ?_); refine sqx 4 #[.int .i64 0, .int .i64 0, .int .i64 0, .int .i64 0] 60 ?_; intro gb366 hg w6 hbox hb; have BK366 := Aside0.mk hbox; have GW366 := sqg HB hg; have GE366 := sqg HB hg; have NB364_366 := sqn BK364 hg; have NB366_364 := sqm BK364 hg; have NB365_366 := sqn BK365 hg; have NB366_365 := sqm BK365 hg; refine sqM2 BK364 BK365 hb ?_; clear BK364 BK365; intro BK364 BK365; replace HB := sqs HB hb; clear hb hbox hg))
 repeat (go_quiet (first | ((with_reducible refine gate_dst (N := 2) rfl ?_); refine sqx 2 #[.int .i64 a0_0, .int .i64 a0_1] 92 ?_; intro gb364 hg w4 hbox hb; have BK364 := Aside0.mk hbox; have GW364 := sqg HB hg; have GE364 := sqg HB hg; replace HB := sqs HB hb; clear hb hbox hg) | ((with_reducible refine gate_dst (N := 3) rfl ?_); refine sqx 3 #[.int .i64 a1_0, .int .i64 a1_1] 96 ?_; intro gb365 hg w5 hbox hb; have BK365 := Aside0.mk hbox; have GW365 := sqg HB hg; have GE365 := sqg HB hg; have NB364_365 := sqn BK364 hg; have NB365_364 := sqm BK364 hg; replace BK364 := sqb BK364 hb; replace HB := sqs HB hb; clear hb hbox hg) | ((with_reducible refine gate_dst (N := 4) rfl ?_); refine sqx 4 #[.int .i64 0, .int .i64 0, .int .i64 0, .int .i64 0] 60 ?_; intro gb366 hg w6 hbox hb; have BK366 := Aside0.mk hbox; have GW366 := sqg HB hg; have GE366 := sqg HB hg; have NB364_366 := sqn BK364 hg; have NB366_364 := sqm BK364 hg; have NB365_366 := sqn BK365 hg; have NB366_365 := sqm BK365 hg; refine sqM2 BK364 BK365 hb ?_; clear BK364 BK365; intro BK364 BK365; replace HB := sqs HB hb; clear hb hbox hg)); go_upto_region 1 with (first | ((with_reducible refine gate_dst (N := 2) rfl ?_); refine sqx 2 #[.int .i64 a0_0, .int .i64 a0_1] 92 ?_; intro gb364 hg w4 hbox hb; have BK364 := Aside0.mk hbox; have GW364 := sqg HB hg; have GE364 := sqg HB hg; replace HB := sqs HB hb; clear hb hbox hg) | ((with_reducible refine gate_dst (N := 3) rfl ?_); refine sqx 3 #[.int .i64 a1_0, .int .i64 a1_1] 96 ?_; intro gb365 hg w5 hbox hb; have BK365 := Aside0.mk hbox; have GW365 := sqg HB hg; have GE365 := sqg HB hg; have NB364_365 := sqn BK364 hg; have NB365_364 := sqm BK364 hg; replace BK364 := sqb BK364 hb; replace HB := sqs HB hb; clear hb hbox hg) | ((with_reducible refine gate_dst (N := 4) rfl ?_); refine sqx 4 #[.int .i64 0, .int .i64 0, .int .i64 0, .int .i64 0] 60 ?_; intro gb366 hg w6 hbox hb; have BK366 := Aside0.mk hbox; have GW366 := sqg HB hg; have GE366 := sqg HB hg; have NB364_366 := sqn BK364 hg; have NB366_364 := sqm BK364 hg; have NB365_366 := sqn BK365 hg; have NB366_365 := sqm BK365 hg; refine sqM2 BK364 BK365 hb ?_; clear BK364 BK365; intro BK364 BK365; replace HB := sqs HB hb; clear hb hbox hg)))
 (try simp only [Act.put, List.setIfInBounds_toArray, List.set_cons_zero, List.set_cons_succ])
 go_cut [18] (fun v18 wc => ∃ (kq : Nat) (x18_2 : Bool), v18 = .bool x18_2 ∧ Aside0 (impl_ValMake.j0 kq x18_2 a0_0 a0_1 a1_0 a1_1 = some (r1, r2, r3, r4)) ∧ Aside0 (kq ≤ k) ∧ Aside0 (wc.heap[gb364]? = some (.cells #[.int .i64 a0_0, .int .i64 a0_1] 92 (0, 0))) ∧ Aside0 (wc.heap[gb365]? = some (.cells #[.int .i64 a1_0, .int .i64 a1_1] 96 (0, 0))) ∧ Aside0 (wc.heap[gb366]? = some (.cells #[.int .i64 0, .int .i64 0, .int .i64 0, .int .i64 0] 60 (0, 0))) ∧ Aside0 (Below w.heap.size w wc))
 case first =>
  have H := HC3.out
  clear HC3
  replace H := Option.bind_eq_some_iff.mp H
  obtain ⟨t367, A70, H⟩ := H
  try dsimp only at H
  have A7 := Aside0.mk A70
  clear A70
  rcases sqI (t367 = true) with c8 | c8
  ·replace c8 := Bool.eq_false_iff.mpr c8
   subst c8
   have H1 : (impl_ValMake.j0 k true a0_0 a0_1 a1_0 a1_1) = some (r1, r2, r3, r4) := by rw [if_neg (show ¬ (false = true) by decide)] at H; exact H
   clear H
   have H := H1
   clear H1
   have H' := Aside0.mk H
   clear H
   have hnb28 := NB364_365.out
   have hnc28 := NB365_364.out
   have hnb29 := NB364_366.out
   have hnc29 := NB366_364.out
   obtain ⟨hcz30_0, hcz30_1, hfz30_0, hfz30_1⟩ := sqc2 BK364
   go_wp2_with (first | (go_at_call 75; (with_reducible refine (impl_RangeOk.calls a0_0 a0_1 false _ A7.out).mono ?_); rintro e w31 ⟨rfl, hb⟩; refine sqM3 BK364 BK365 BK366 hb ?_; clear BK364 BK365 BK366; intro BK364 BK365 BK366; replace HB := sqs HB hb; (try clear hb)))
   repeat (go_quiet (first | (go_at_call 75; (with_reducible refine (impl_RangeOk.calls a0_0 a0_1 false _ A7.out).mono ?_); rintro e w31 ⟨rfl, hb⟩; refine sqM3 BK364 BK365 BK366 hb ?_; clear BK364 BK365 BK366; intro BK364 BK365 BK366; replace HB := sqs HB hb; (try clear hb))); try go_wp2_with (first | (go_at_call 75; (with_reducible refine (impl_RangeOk.calls a0_0 a0_1 false _ A7.out).mono ?_); rintro e w31 ⟨rfl, hb⟩; refine sqM3 BK364 BK365 BK366 hb ?_; clear BK364 BK365 BK366; intro BK364 BK365 BK366; replace HB := sqs HB hb; (try clear hb))))
   go_meet
   case rel => exact ⟨_, (true), (by first | rfl | (simp; done) | (simp [*]; done)), H', ⟨by first | omega | exact Nat.le_refl _⟩, sqk BK364, sqk BK365, sqk BK366, sqh HB⟩
  subst c8
  have H1 : ((impl_RestOk.f a1_0 a1_1).bind fun t368 => (if t368 = true then ((impl_Range_empty.f a0_0 a0_1).bind fun t369 => (impl_ValMake.j0 k t369 a0_0 a0_1 a1_0 a1_1)) else (impl_ValMake.j0 k true a0_0 a0_1 a1_0 a1_1))) = some (r1, r2, r3, r4) := by rw [if_pos rfl] at H; exact H
  clear H
  have H := H1
  clear H1
  replace H := Option.bind_eq_some_iff.mp H
  obtain ⟨t368, A90, H⟩ := H
  try dsimp only at H
  have A9 := Aside0.mk A90
  clear A90
  rcases sqI (t368 = true) with c10 | c10
  ·replace c10 := Bool.eq_false_iff.mpr c10
   subst c10
   have H1 : (impl_ValMake.j0 k true a0_0 a0_1 a1_0 a1_1) = some (r1, r2, r3, r4) := by rw [if_neg (show ¬ (false = true) by decide)] at H; exact H
   clear H
   have H := H1
   clear H1
   have H' := Aside0.mk H
   clear H
   have hnb21 := NB364_365.out
   have hnc21 := NB365_364.out
   have hnb22 := NB364_366.out
   have hnc22 := NB366_364.out
   obtain ⟨hcz23_0, hcz23_1, hfz23_0, hfz23_1⟩ := sqc2 BK364
   go_wp2_with (first | (go_at_call 75; (with_reducible refine (impl_RangeOk.calls a0_0 a0_1 true _ A7.out).mono ?_); rintro e w24 ⟨rfl, hb⟩; refine sqM3 BK364 BK365 BK366 hb ?_; clear BK364 BK365 BK366; intro BK364 BK365 BK366; replace HB := sqs HB hb; (try clear hb); have hnb25 := NB365_366.out; have hnc25 := NB366_365.out; obtain ⟨hcz26_0, hcz26_1, hfz26_0, hfz26_1⟩ := sqc2 BK365) | (go_at_call 76; (with_reducible refine (impl_RestOk.calls a1_0 a1_1 false _ A9.out).mono ?_); rintro e w27 ⟨rfl, hb⟩; refine sqM3 BK364 BK365 BK366 hb ?_; clear BK364 BK365 BK366; intro BK364 BK365 BK366; replace HB := sqs HB hb; (try clear hb)))
   repeat (go_quiet (first | (go_at_call 75; (with_reducible refine (impl_RangeOk.calls a0_0 a0_1 true _ A7.out).mono ?_); rintro e w24 ⟨rfl, hb⟩; refine sqM3 BK364 BK365 BK366 hb ?_; clear BK364 BK365 BK366; intro BK364 BK365 BK366; replace HB := sqs HB hb; (try clear hb); have hnb25 := NB365_366.out; have hnc25 := NB366_365.out; obtain ⟨hcz26_0, hcz26_1, hfz26_0, hfz26_1⟩ := sqc2 BK365) | (go_at_call 76; (with_reducible refine (impl_RestOk.calls a1_0 a1_1 false _ A9.out).mono ?_); rintro e w27 ⟨rfl, hb⟩; refine sqM3 BK364 BK365 BK366 hb ?_; clear BK364 BK365 BK366; intro BK364 BK365 BK366; replace HB := sqs HB hb; (try clear hb))); try go_wp2_with (first | (go_at_call 75; (with_reducible refine (impl_RangeOk.calls a0_0 a0_1 true _ A7.out).mono ?_); rintro e w24 ⟨rfl, hb⟩; refine sqM3 BK364 BK365 BK366 hb ?_; clear BK364 BK365 BK366; intro BK364 BK365 BK366; replace HB := sqs HB hb; (try clear hb); have hnb25 := NB365_366.out; have hnc25 := NB366_365.out; obtain ⟨hcz26_0, hcz26_1, hfz26_0, hfz26_1⟩ := sqc2 BK365) | (go_at_call 76; (with_reducible refine (impl_RestOk.calls a1_0 a1_1 false _ A9.out).mono ?_); rintro e w27 ⟨rfl, hb⟩; refine sqM3 BK364 BK365 BK366 hb ?_; clear BK364 BK365 BK366; intro BK364 BK365 BK366; replace HB := sqs HB hb; (try clear hb))))
   go_meet
   case rel => exact ⟨_, (true), (by first | rfl | (simp; done) | (simp [*]; done)), H', ⟨by first | omega | exact Nat.le_refl _⟩, sqk BK364, sqk BK365, sqk BK366, sqh HB⟩
  subst c10
  have H1 : ((impl_Range_empty.f a0_0 a0_1).bind fun t369 => (impl_ValMake.j0 k t369 a0_0 a0_1 a1_0 a1_1)) = some (r1, r2, r3, r4) := by rw [if_pos rfl] at H; exact H
  clear H
  have H := H1
  clear H1
  replace H := Option.bind_eq_some_iff.mp H
  obtain ⟨t369, A110, H⟩ := H
  try dsimp only at H
  have A11 := Aside0.mk A110
  clear A110
  have H' := Aside0.mk H
  clear H
  have hnb12 := NB364_365.out
  have hnc12 := NB365_364.out
  have hnb13 := NB364_366.out
  have hnc13 := NB366_364.out
  obtain ⟨hcz14_0, hcz14_1, hfz14_0, hfz14_1⟩ := sqc2 BK364
  go_wp2_with (first | (go_at_call 75; (with_reducible refine (impl_RangeOk.calls a0_0 a0_1 true _ A7.out).mono ?_); rintro e w15 ⟨rfl, hb⟩; refine sqM3 BK364 BK365 BK366 hb ?_; clear BK364 BK365 BK366; intro BK364 BK365 BK366; replace HB := sqs HB hb; (try clear hb); have hnb16 := NB365_366.out; have hnc16 := NB366_365.out; obtain ⟨hcz17_0, hcz17_1, hfz17_0, hfz17_1⟩ := sqc2 BK365) | (go_at_call 76; (with_reducible refine (impl_RestOk.calls a1_0 a1_1 true _ A9.out).mono ?_); rintro e w18 ⟨rfl, hb⟩; refine sqM3 BK364 BK365 BK366 hb ?_; clear BK364 BK365 BK366; intro BK364 BK365 BK366; replace HB := sqs HB hb; (try clear hb); obtain ⟨hcz19_0, hcz19_1, hfz19_0, hfz19_1⟩ := sqc2 BK364) | (go_at_call 80; (with_reducible refine (impl_Range_empty.calls a0_0 a0_1 t369 _ A11.out).mono ?_); rintro e w20 ⟨rfl, hb⟩; refine sqM3 BK364 BK365 BK366 hb ?_; clear BK364 BK365 BK366; intro BK364 BK365 BK366; replace HB := sqs HB hb; (try clear hb)))
  repeat (go_quiet (first | (go_at_call 75; (with_reducible refine (impl_RangeOk.calls a0_0 a0_1 true _ A7.out).mono ?_); rintro e w15 ⟨rfl, hb⟩; refine sqM3 BK364 BK365 BK366 hb ?_; clear BK364 BK365 BK366; intro BK364 BK365 BK366; replace HB := sqs HB hb; (try clear hb); have hnb16 := NB365_366.out; have hnc16 := NB366_365.out; obtain ⟨hcz17_0, hcz17_1, hfz17_0, hfz17_1⟩ := sqc2 BK365) | (go_at_call 76; (with_reducible refine (impl_RestOk.calls a1_0 a1_1 true _ A9.out).mono ?_); rintro e w18 ⟨rfl, hb⟩; refine sqM3 BK364 BK365 BK366 hb ?_; clear BK364 BK365 BK366; intro BK364 BK365 BK366; replace HB := sqs HB hb; (try clear hb); obtain ⟨hcz19_0, hcz19_1, hfz19_0, hfz19_1⟩ := sqc2 BK364) | (go_at_call 80; (with_reducible refine (impl_Range_empty.calls a0_0 a0_1 t369 _ A11.out).mono ?_); rintro e w20 ⟨rfl, hb⟩; refine sqM3 BK364 BK365 BK366 hb ?_; clear BK364 BK365 BK366; intro BK364 BK365 BK366; replace HB := sqs HB hb; (try clear hb))); try go_wp2_with (first | (go_at_call 75; (with_reducible refine (impl_RangeOk.calls a0_0 a0_1 true _ A7.out).mono ?_); rintro e w15 ⟨rfl, hb⟩; refine sqM3 BK364 BK365 BK366 hb ?_; clear BK364 BK365 BK366; intro BK364 BK365 BK366; replace HB := sqs HB hb; (try clear hb); have hnb16 := NB365_366.out; have hnc16 := NB366_365.out; obtain ⟨hcz17_0, hcz17_1, hfz17_0, hfz17_1⟩ := sqc2 BK365) | (go_at_call 76; (with_reducible refine (impl_RestOk.calls a1_0 a1_1 true _ A9.out).mono ?_); rintro e w18 ⟨rfl, hb⟩; refine sqM3 BK364 BK365 BK366 hb ?_; clear BK364 BK365 BK366; intro BK364 BK365 BK366; replace HB := sqs HB hb; (try clear hb); obtain ⟨hcz19_0, hcz19_1, hfz19_0, hfz19_1⟩ := sqc2 BK364) | (go_at_call 80; (with_reducible refine (impl_Range_empty.calls a0_0 a0_1 t369 _ A11.out).mono ?_); rintro e w20 ⟨rfl, hb⟩; refine sqM3 BK364 BK365 BK366 hb ?_; clear BK364 BK365 BK366; intro BK364 BK365 BK366; replace HB := sqs HB hb; (try clear hb))))
  go_meet
  case rel => exact ⟨_, (t369), (by first | rfl | (simp; done) | (simp [*]; done)), H', ⟨by first | omega | exact Nat.le_refl _⟩, sqk BK364, sqk BK365, sqk BK366, sqh HB⟩
 case rest =>
  clear HC3
  obtain ⟨kq, x18_2, rfl, HA, HJ2, BK364, BK365, BK366, HB⟩ := hcut
  cases kq with
  | zero => exact absurd HA.out (by simp [impl_ValMake.j0])
  | succ kj2 =>
   have H := HA.out
   clear HA
   simp only [impl_ValMake.j0] at H
   by_cases c32 : x18_2 = true
   ·subst c32
    have H1 : ((impl_valNone.f).bind fun bt370 => (some (bt370.1, bt370.2.1, bt370.2.2.1, bt370.2.2.2))) = some (r1, r2, r3, r4) := by rw [if_pos rfl] at H; exact H
    clear H
    have H := H1
    clear H1
    replace H := Option.bind_eq_some_iff.mp H
    obtain ⟨⟨t370, t371, t372, t373⟩, A330, H⟩ := H
    try dsimp only at H
    have A33 := Aside0.mk A330
    clear A330
    simp only [Option.some.injEq, Prod.mk.injEq] at H
    obtain ⟨rfl, rfl, rfl, rfl⟩ := H
    go_wp2_with (first | (go_at_call 73; (with_reducible refine (impl_valNone.calls  t370 t371 t372 t373 _ A33.out).mono ?_); rintro e w34 ⟨rfl, hb⟩; refine sqM3 BK364 BK365 BK366 hb ?_; clear BK364 BK365 BK366; intro BK364 BK365 BK366; replace HB := sqs HB hb; (try clear hb); have hnb35 := NB366_364.out; have hnc35 := NB364_366.out; have hnb36 := NB366_365.out; have hnc36 := NB365_366.out; obtain ⟨hcz37_0, hcz37_1, hcz37_2, hcz37_3, hfz37_0, hfz37_1, hfz37_2, hfz37_3⟩ := sqc4 BK366))
    repeat (go_quiet (first | (go_at_call 73; (with_reducible refine (impl_valNone.calls  t370 t371 t372 t373 _ A33.out).mono ?_); rintro e w34 ⟨rfl, hb⟩; refine sqM3 BK364 BK365 BK366 hb ?_; clear BK364 BK365 BK366; intro BK364 BK365 BK366; replace HB := sqs HB hb; (try clear hb); have hnb35 := NB366_364.out; have hnc35 := NB364_366.out; have hnb36 := NB366_365.out; have hnc36 := NB365_366.out; obtain ⟨hcz37_0, hcz37_1, hcz37_2, hcz37_3, hfz37_0, hfz37_1, hfz37_2, hfz37_3⟩ := sqc4 BK366)); try go_wp2_with (first | (go_at_call 73; (with_reducible refine (impl_valNone.calls  t370 t371 t372 t373 _ A33.out).mono ?_); rintro e w34 ⟨rfl, hb⟩; refine sqM3 BK364 BK365 BK366 hb ?_; clear BK364 BK365 BK366; intro BK364 BK365 BK366; replace HB := sqs HB hb; (try clear hb); have hnb35 := NB366_364.out; have hnc35 := NB364_366.out; have hnb36 := NB366_365.out; have hnc36 := NB365_366.out; obtain ⟨hcz37_0, hcz37_1, hcz37_2, hcz37_3, hfz37_0, hfz37_1, hfz37_2, hfz37_3⟩ := sqc4 BK366)))
    refine bodyPost_ret (results_cell_row rfl _ _ gb366 60 #[.int .i64 t370, .int .i64 t371, .int .i64 t372, .int .i64 t373] (0, 0) _ rfl (by refine sqt ?_; refine blk_put (cs := #[.int .i64 t370, .int .i64 t371, .int .i64 t372, .int .i64 0]) ?_ 3 _ rfl; refine sqt ?_; refine blk_put (cs := #[.int .i64 t370, .int .i64 t371, .int .i64 0, .int .i64 0]) ?_ 2 _ rfl; refine sqt ?_; refine blk_put (cs := #[.int .i64 t370, .int .i64 0, .int .i64 0, .int .i64 0]) ?_ 1 _ rfl; refine sqt ?_; refine blk_put (cs := #[.int .i64 0, .int .i64 0, .int .i64 0, .int .i64 0]) ?_ 0 _ rfl; refine sqt ?_; exact BK366.out) Try.underlying60 rfl (by kernel_rfl)) rfl ?_
    exact sqe HB
   replace c32 := Bool.eq_false_iff.mpr c32
   subst c32
   have H1 : (if a1_0 = 0 then ((impl_RangeHas.f a0_0 a0_1 a1_1).bind fun t374 => (if t374 = true then ((impl_valOne.f a1_1).bind fun bt375 => (some (bt375.1, bt375.2.1, bt375.2.2.1, bt375.2.2.2))) else ((impl_valNone.f).bind fun bt379 => (some (bt379.1, bt379.2.1, bt379.2.2.1, bt379.2.2.2))))) else ((impl_restMod.f (wrap64 (a1_1 - a0_0)) a1_0).bind fun t383 => ((impl_restMod.f (wrap64 (a0_1 - a1_1)) a1_0).bind fun t384 => (if (wrap64 (a0_0 + t383)) > (wrap64 (a0_1 - t384)) then ((impl_valNone.f).bind fun bt385 => (some (bt385.1, bt385.2.1, bt385.2.2.1, bt385.2.2.2))) else (if (wrap64 (a0_0 + t383)) = (wrap64 (a0_1 - t384)) then ((impl_valOne.f (wrap64 (a0_0 + t383))).bind fun bt389 => (some (bt389.1, bt389.2.1, bt389.2.2.1, bt389.2.2.2))) else (some (wrap64 (a0_0 + t383), wrap64 (a0_1 - t384), a1_0, a1_1))))))) = some (r1, r2, r3, r4) := by rw [if_neg (show ¬ (false = true) by decide)] at H; exact H
   clear H
   have H := H1
   clear H1
   replace H := sqj H
   rcases H with ⟨c38, H⟩ | ⟨c38, H⟩
   ·have c38b0 : (a1_0 == 0) = true := beq_iff_eq.mpr c38
    have c38b1 : (a1_0 != 0) = false := bne_eq_false_iff_eq.mpr c38
    clear c38
    replace H := Option.bind_eq_some_iff.mp H
    obtain ⟨t374, A390, H⟩ := H
    try dsimp only at H
    have A39 := Aside0.mk A390
    clear A390
    rcases sqI (t374 = true) with c40 | c40
    ·replace c40 := Bool.eq_false_iff.mpr c40
     subst c40
     have H1 : ((impl_valNone.f).bind fun bt379 => (some (bt379.1, bt379.2.1, bt379.2.2.1, bt379.2.2.2))) = some (r1, r2, r3, r4) := by rw [if_neg (show ¬ (false = true) by decide)] at H; exact H
     clear H
     have H := H1
     clear H1
     replace H := Option.bind_eq_some_iff.mp H
     obtain ⟨⟨t379, t380, t381, t382⟩, A510, H⟩ := H
     try dsimp only at H
     have A51 := Aside0.mk A510
     clear A510
     simp only [Option.some.injEq, Prod.mk.injEq] at H
     obtain ⟨rfl, rfl, rfl, rfl⟩ := H
     have hnb52 := NB365_364.out
     have hnc52 := NB364_365.out
     have hnb53 := NB365_366.out
     have hnc53 := NB366_365.out
     obtain ⟨hcz54_0, hcz54_1, hfz54_0, hfz54_1⟩ := sqc2 BK365
     have hnb55 := NB364_366.out
     have hnc55 := NB366_364.out
     obtain ⟨hcz56_0, hcz56_1, hfz56_0, hfz56_1⟩ := sqc2 BK364
     go_wp2_with (first | (go_at_call 60; (with_reducible refine (impl_RangeHas.calls a0_0 a0_1 a1_1 false _ A39.out).mono ?_); rintro e w57 ⟨rfl, hb⟩; refine sqM3 BK364 BK365 BK366 hb ?_; clear BK364 BK365 BK366; intro BK364 BK365 BK366; replace HB := sqs HB hb; (try clear hb)) | (go_at_call 73; (with_reducible refine (impl_valNone.calls  t379 t380 t381 t382 _ A51.out).mono ?_); rintro e w58 ⟨rfl, hb⟩; refine sqM3 BK364 BK365 BK366 hb ?_; clear BK364 BK365 BK366; intro BK364 BK365 BK366; replace HB := sqs HB hb; (try clear hb); obtain ⟨hcz59_0, hcz59_1, hcz59_2, hcz59_3, hfz59_0, hfz59_1, hfz59_2, hfz59_3⟩ := sqc4 BK366))
     repeat (go_quiet (first | (go_at_call 60; (with_reducible refine (impl_RangeHas.calls a0_0 a0_1 a1_1 false _ A39.out).mono ?_); rintro e w57 ⟨rfl, hb⟩; refine sqM3 BK364 BK365 BK366 hb ?_; clear BK364 BK365 BK366; intro BK364 BK365 BK366; replace HB := sqs HB hb; (try clear hb)) | (go_at_call 73; (with_reducible refine (impl_valNone.calls  t379 t380 t381 t382 _ A51.out).mono ?_); rintro e w58 ⟨rfl, hb⟩; refine sqM3 BK364 BK365 BK366 hb ?_; clear BK364 BK365 BK366; intro BK364 BK365 BK366; replace HB := sqs HB hb; (try clear hb); obtain ⟨hcz59_0, hcz59_1, hcz59_2, hcz59_3, hfz59_0, hfz59_1, hfz59_2, hfz59_3⟩ := sqc4 BK366)); try go_wp2_with (first | (go_at_call 60; (with_reducible refine (impl_RangeHas.calls a0_0 a0_1 a1_1 false _ A39.out).mono ?_); rintro e w57 ⟨rfl, hb⟩; refine sqM3 BK364 BK365 BK366 hb ?_; clear BK364 BK365 BK366; intro BK364 BK365 BK366; replace HB := sqs HB hb; (try clear hb)) | (go_at_call 73; (with_reducible refine (impl_valNone.calls  t379 t380 t381 t382 _ A51.out).mono ?_); rintro e w58 ⟨rfl, hb⟩; refine sqM3 BK364 BK365 BK366 hb ?_; clear BK364 BK365 BK366; intro BK364 BK365 BK366; replace HB := sqs HB hb; (try clear hb); obtain ⟨hcz59_0, hcz59_1, hcz59_2, hcz59_3, hfz59_0, hfz59_1, hfz59_2, hfz59_3⟩ := sqc4 BK366)))
     refine bodyPost_ret (results_cell_row rfl _ _ gb366 60 #[.int .i64 t379, .int .i64 t380, .int .i64 t381, .int .i64 t382] (0, 0) _ rfl (by refine sqt ?_; refine blk_put (cs := #[.int .i64 t379, .int .i64 t380, .int .i64 t381, .int .i64 0]) ?_ 3 _ rfl; refine sqt ?_; refine blk_put (cs := #[.int .i64 t379, .int .i64 t380, .int .i64 0, .int .i64 0]) ?_ 2 _ rfl; refine sqt ?_; refine blk_put (cs := #[.int .i64 t379, .int .i64 0, .int .i64 0, .int .i64 0]) ?_ 1 _ rfl; refine sqt ?_; refine blk_put (cs := #[.int .i64 0, .int .i64 0, .int .i64 0, .int .i64 0]) ?_ 0 _ rfl; refine sqt ?_; exact BK366.out) Try.underlying60 rfl (by kernel_rfl)) rfl ?_
     exact sqe HB
    subst c40
    have H1 : ((impl_valOne.f a1_1).bind fun bt375 => (some (bt375.1, bt375.2.1, bt375.2.2.1, bt375.2.2.2))) = some (r1, r2, r3, r4) := by rw [if_pos rfl] at H; exact H
    clear H
    have H := H1
    clear H1
    replace H := Option.bind_eq_some_iff.mp H
    obtain ⟨⟨t375, t376, t377, t378⟩, A410, H⟩ := H
    try dsimp only at H
    have A41 := Aside0.mk A410
    clear A410
    simp only [Option.some.injEq, Prod.mk.injEq] at H
    obtain ⟨rfl, rfl, rfl, rfl⟩ := H
    have hnb42 := NB365_364.out
    have hnc42 := NB364_365.out
    have hnb43 := NB365_366.out
    have hnc43 := NB366_365.out
    obtain ⟨hcz44_0, hcz44_1, hfz44_0, hfz44_1⟩ := sqc2 BK365
    have hnb45 := NB364_366.out
    have hnc45 := NB366_364.out
    obtain ⟨hcz46_0, hcz46_1, hfz46_0, hfz46_1⟩ := sqc2 BK364
    go_wp2_with (first | (go_at_call 60; (with_reducible refine (impl_RangeHas.calls a0_0 a0_1 a1_1 true _ A39.out).mono ?_); rintro e w47 ⟨rfl, hb⟩; refine sqM3 BK364 BK365 BK366 hb ?_; clear BK364 BK365 BK366; intro BK364 BK365 BK366; replace HB := sqs HB hb; (try clear hb); obtain ⟨hcz48_0, hcz48_1, hfz48_0, hfz48_1⟩ := sqc2 BK365) | (go_at_call 81; (with_reducible refine (impl_valOne.calls a1_1 t375 t376 t377 t378 _ A41.out).mono ?_); rintro e w49 ⟨rfl, hb⟩; refine sqM3 BK364 BK365 BK366 hb ?_; clear BK364 BK365 BK366; intro BK364 BK365 BK366; replace HB := sqs HB hb; (try clear hb); obtain ⟨hcz50_0, hcz50_1, hcz50_2, hcz50_3, hfz50_0, hfz50_1, hfz50_2, hfz50_3⟩ := sqc4 BK366))
    repeat (go_quiet (first | (go_at_call 60; (with_reducible refine (impl_RangeHas.calls a0_0 a0_1 a1_1 true _ A39.out).mono ?_); rintro e w47 ⟨rfl, hb⟩; refine sqM3 BK364 BK365 BK366 hb ?_; clear BK364 BK365 BK366; intro BK364 BK365 BK366; replace HB := sqs HB hb; (try clear hb); obtain ⟨hcz48_0, hcz48_1, hfz48_0, hfz48_1⟩ := sqc2 BK365) | (go_at_call 81; (with_reducible refine (impl_valOne.calls a1_1 t375 t376 t377 t378 _ A41.out).mono ?_); rintro e w49 ⟨rfl, hb⟩; refine sqM3 BK364 BK365 BK366 hb ?_; clear BK364 BK365 BK366; intro BK364 BK365 BK366; replace HB := sqs HB hb; (try clear hb); obtain ⟨hcz50_0, hcz50_1, hcz50_2, hcz50_3, hfz50_0, hfz50_1, hfz50_2, hfz50_3⟩ := sqc4 BK366)); try go_wp2_with (first | (go_at_call 60; (with_reducible refine (impl_RangeHas.calls a0_0 a0_1 a1_1 true _ A39.out).mono ?_); rintro e w47 ⟨rfl, hb⟩; refine sqM3 BK364 BK365 BK366 hb ?_; clear BK364 BK365 BK366; intro BK364 BK365 BK366; replace HB := sqs HB hb; (try clear hb); obtain ⟨hcz48_0, hcz48_1, hfz48_0, hfz48_1⟩ := sqc2 BK365) | (go_at_call 81; (with_reducible refine (impl_valOne.calls a1_1 t375 t376 t377 t378 _ A41.out).mono ?_); rintro e w49 ⟨rfl, hb⟩; refine sqM3 BK364 BK365 BK366 hb ?_; clear BK364 BK365 BK366; intro BK364 BK365 BK366; replace HB := sqs HB hb; (try clear hb); obtain ⟨hcz50_0, hcz50_1, hcz50_2, hcz50_3, hfz50_0, hfz50_1, hfz50_2, hfz50_3⟩ := sqc4 BK366)))
    refine bodyPost_ret (results_cell_row rfl _ _ gb366 60 #[.int .i64 t375, .int .i64 t376, .int .i64 t377, .int .i64 t378] (0, 0) _ rfl (by refine sqt ?_; refine blk_put (cs := #[.int .i64 t375, .int .i64 t376, .int .i64 t377, .int .i64 0]) ?_ 3 _ rfl; refine sqt ?_; refine blk_put (cs := #[.int .i64 t375, .int .i64 t376, .int .i64 0, .int .i64 0]) ?_ 2 _ rfl; refine sqt ?_; refine blk_put (cs := #[.int .i64 t375, .int .i64 0, .int .i64 0, .int .i64 0]) ?_ 1 _ rfl; refine sqt ?_; refine blk_put (cs := #[.int .i64 0, .int .i64 0, .int .i64 0, .int .i64 0]) ?_ 0 _ rfl; refine sqt ?_; exact BK366.out) Try.underlying60 rfl (by kernel_rfl)) rfl ?_
    exact sqe HB
   have c38b0 : (a1_0 == 0) = false := beq_eq_false_iff_ne.mpr c38
   have c38b1 : (a1_0 != 0) = true := bne_iff_ne.mpr c38
   replace H := Option.bind_eq_some_iff.mp H
   obtain ⟨t383, A600, H⟩ := H
   try dsimp only at H
   have A60 := Aside0.mk A600
   clear A600
   replace H := Option.bind_eq_some_iff.mp H
   obtain ⟨t384, A610, H⟩ := H
   try dsimp only at H
   have A61 := Aside0.mk A610
   clear A610
   replace H := sqj H
   rcases H with ⟨c62, H⟩ | ⟨c62, H⟩
   ·have c62b0 : decide ((wrap64 (a0_1 - t384)) < (wrap64 (a0_0 + t383))) = true := decide_eq_true c62
    clear c62
    replace H := Option.bind_eq_some_iff.mp H
    obtain ⟨⟨t385, t386, t387, t388⟩, A630, H⟩ := H
    try dsimp only at H
    have A63 := Aside0.mk A630
    clear A630
    simp only [Option.some.injEq, Prod.mk.injEq] at H
    obtain ⟨rfl, rfl, rfl, rfl⟩ := H
    have hnb64 := NB365_364.out
    have hnc64 := NB364_365.out
    have hnb65 := NB365_366.out
    have hnc65 := NB366_365.out
    obtain ⟨hcz66_0, hcz66_1, hfz66_0, hfz66_1⟩ := sqc2 BK365
    have hnb67 := NB364_366.out
    have hnc67 := NB366_364.out
    obtain ⟨hcz68_0, hcz68_1, hfz68_0, hfz68_1⟩ := sqc2 BK364
    go_wp2_with (first | (go_at_call 77; (with_reducible refine (impl_restMod.calls (wrap64 (a1_1 - a0_0)) a1_0 t383 _ A60.out).mono ?_); rintro e w' ⟨rfl, ⟨nd, rfl⟩⟩; (try first | exact ⟨rfl, _, World.drewN_drewN _ _ _⟩ | exact ⟨rfl, _, Eq.trans (World.drewN_drewN _ _ _) (congrArg (World.drewN _) (Nat.add_assoc _ _ _))⟩)) | (go_at_call 77; (with_reducible refine (impl_restMod.calls (wrap64 (a0_1 - a1_1)) a1_0 t384 _ A61.out).mono ?_); rintro e w' ⟨rfl, ⟨nd, rfl⟩⟩; (try first | exact ⟨rfl, _, World.drewN_drewN _ _ _⟩ | exact ⟨rfl, _, Eq.trans (World.drewN_drewN _ _ _) (congrArg (World.drewN _) (Nat.add_assoc _ _ _))⟩)) | (go_at_call 73; (with_reducible refine (impl_valNone.calls  t385 t386 t387 t388 _ A63.out).mono ?_); rintro e w69 ⟨rfl, hb⟩; refine sqM3 BK364 BK365 BK366 hb ?_; clear BK364 BK365 BK366; intro BK364 BK365 BK366; replace HB := sqs HB hb; (try clear hb); obtain ⟨hcz70_0, hcz70_1, hcz70_2, hcz70_3, hfz70_0, hfz70_1, hfz70_2, hfz70_3⟩ := sqc4 BK366))
    repeat (go_quiet (first | (go_at_call 77; (with_reducible refine (impl_restMod.calls (wrap64 (a1_1 - a0_0)) a1_0 t383 _ A60.out).mono ?_); rintro e w' ⟨rfl, ⟨nd, rfl⟩⟩; (try first | exact ⟨rfl, _, World.drewN_drewN _ _ _⟩ | exact ⟨rfl, _, Eq.trans (World.drewN_drewN _ _ _) (congrArg (World.drewN _) (Nat.add_assoc _ _ _))⟩)) | (go_at_call 77; (with_reducible refine (impl_restMod.calls (wrap64 (a0_1 - a1_1)) a1_0 t384 _ A61.out).mono ?_); rintro e w' ⟨rfl, ⟨nd, rfl⟩⟩; (try first | exact ⟨rfl, _, World.drewN_drewN _ _ _⟩ | exact ⟨rfl, _, Eq.trans (World.drewN_drewN _ _ _) (congrArg (World.drewN _) (Nat.add_assoc _ _ _))⟩)) | (go_at_call 73; (with_reducible refine (impl_valNone.calls  t385 t386 t387 t388 _ A63.out).mono ?_); rintro e w69 ⟨rfl, hb⟩; refine sqM3 BK364 BK365 BK366 hb ?_; clear BK364 BK365 BK366; intro BK364 BK365 BK366; replace HB := sqs HB hb; (try clear hb); obtain ⟨hcz70_0, hcz70_1, hcz70_2, hcz70_3, hfz70_0, hfz70_1, hfz70_2, hfz70_3⟩ := sqc4 BK366)); try go_wp2_with (first | (go_at_call 77; (with_reducible refine (impl_restMod.calls (wrap64 (a1_1 - a0_0)) a1_0 t383 _ A60.out).mono ?_); rintro e w' ⟨rfl, ⟨nd, rfl⟩⟩; (try first | exact ⟨rfl, _, World.drewN_drewN _ _ _⟩ | exact ⟨rfl, _, Eq.trans (World.drewN_drewN _ _ _) (congrArg (World.drewN _) (Nat.add_assoc _ _ _))⟩)) | (go_at_call 77; (with_reducible refine (impl_restMod.calls (wrap64 (a0_1 - a1_1)) a1_0 t384 _ A61.out).mono ?_); rintro e w' ⟨rfl, ⟨nd, rfl⟩⟩; (try first | exact ⟨rfl, _, World.drewN_drewN _ _ _⟩ | exact ⟨rfl, _, Eq.trans (World.drewN_drewN _ _ _) (congrArg (World.drewN _) (Nat.add_assoc _ _ _))⟩)) | (go_at_call 73; (with_reducible refine (impl_valNone.calls  t385 t386 t387 t388 _ A63.out).mono ?_); rintro e w69 ⟨rfl, hb⟩; refine sqM3 BK364 BK365 BK366 hb ?_; clear BK364 BK365 BK366; intro BK364 BK365 BK366; replace HB := sqs HB hb; (try clear hb); obtain ⟨hcz70_0, hcz70_1, hcz70_2, hcz70_3, hfz70_0, hfz70_1, hfz70_2, hfz70_3⟩ := sqc4 BK366)))
    refine bodyPost_ret (results_cell_row rfl _ _ gb366 60 #[.int .i64 t385, .int .i64 t386, .int .i64 t387, .int .i64 t388] (0, 0) _ rfl (by refine sqt ?_; refine blk_put (cs := #[.int .i64 t385, .int .i64 t386, .int .i64 t387, .int .i64 0]) ?_ 3 _ rfl; refine sqt ?_; refine blk_put (cs := #[.int .i64 t385, .int .i64 t386, .int .i64 0, .int .i64 0]) ?_ 2 _ rfl; refine sqt ?_; refine blk_put (cs := #[.int .i64 t385, .int .i64 0, .int .i64 0, .int .i64 0]) ?_ 1 _ rfl; refine sqt ?_; refine blk_put (cs := #[.int .i64 0, .int .i64 0, .int .i64 0, .int .i64 0]) ?_ 0 _ rfl; refine sqt ?_; exact BK366.out) Try.underlying60 rfl (by kernel_rfl)) rfl ?_
    exact sqe HB
   have c62b0 : decide ((wrap64 (a0_1 - t384)) < (wrap64 (a0_0 + t383))) = false := decide_eq_false c62
   clear c62
   replace H := sqi H
   rcases H with ⟨c71, H⟩ | ⟨c71, H⟩
   ·have c71b0 : ((wrap64 (a0_0 + t383)) == (wrap64 (a0_1 - t384))) = false := beq_eq_false_iff_ne.mpr c71
    have c71b1 : ((wrap64 (a0_0 + t383)) != (wrap64 (a0_1 - t384))) = true := bne_iff_ne.mpr c71
    simp only [Option.some.injEq, Prod.mk.injEq] at H
    obtain ⟨rfl, rfl, rfl, rfl⟩ := H
    have hnb80 := NB365_364.out
    have hnc80 := NB364_365.out
    have hnb81 := NB365_366.out
    have hnc81 := NB366_365.out
    obtain ⟨hcz82_0, hcz82_1, hfz82_0, hfz82_1⟩ := sqc2 BK365
    have hnb83 := NB364_366.out
    have hnc83 := NB366_364.out
    obtain ⟨hcz84_0, hcz84_1, hfz84_0, hfz84_1⟩ := sqc2 BK364
    obtain ⟨hcz85_0, hcz85_1, hcz85_2, hcz85_3, hfz85_0, hfz85_1, hfz85_2, hfz85_3⟩ := sqc4 BK366
    go_wp2_with (first | (go_at_call 77; (with_reducible refine (impl_restMod.calls (wrap64 (a1_1 - a0_0)) a1_0 t383 _ A60.out).mono ?_); rintro e w' ⟨rfl, ⟨nd, rfl⟩⟩; (try first | exact ⟨rfl, _, World.drewN_drewN _ _ _⟩ | exact ⟨rfl, _, Eq.trans (World.drewN_drewN _ _ _) (congrArg (World.drewN _) (Nat.add_assoc _ _ _))⟩)) | (go_at_call 77; (with_reducible refine (impl_restMod.calls (wrap64 (a0_1 - a1_1)) a1_0 t384 _ A61.out).mono ?_); rintro e w' ⟨rfl, ⟨nd, rfl⟩⟩; (try first | exact ⟨rfl, _, World.drewN_drewN _ _ _⟩ | exact ⟨rfl, _, Eq.trans (World.drewN_drewN _ _ _) (congrArg (World.drewN _) (Nat.add_assoc _ _ _))⟩); (try (obtain ⟨hcz85_0, hcz85_1, hcz85_2, hcz85_3, hfz85_0, hfz85_1, hfz85_2, hfz85_3⟩ := sqc4 BK366))))
    repeat (go_quiet (first | (go_at_call 77; (with_reducible refine (impl_restMod.calls (wrap64 (a1_1 - a0_0)) a1_0 t383 _ A60.out).mono ?_); rintro e w' ⟨rfl, ⟨nd, rfl⟩⟩; (try first | exact ⟨rfl, _, World.drewN_drewN _ _ _⟩ | exact ⟨rfl, _, Eq.trans (World.drewN_drewN _ _ _) (congrArg (World.drewN _) (Nat.add_assoc _ _ _))⟩)) | (go_at_call 77; (with_reducible refine (impl_restMod.calls (wrap64 (a0_1 - a1_1)) a1_0 t384 _ A61.out).mono ?_); rintro e w' ⟨rfl, ⟨nd, rfl⟩⟩; (try first | exact ⟨rfl, _, World.drewN_drewN _ _ _⟩ | exact ⟨rfl, _, Eq.trans (World.drewN_drewN _ _ _) (congrArg (World.drewN _) (Nat.add_assoc _ _ _))⟩); (try (obtain ⟨hcz85_0, hcz85_1, hcz85_2, hcz85_3, hfz85_0, hfz85_1, hfz85_2, hfz85_3⟩ := sqc4 BK366)))); try go_wp2_with (first | (go_at_call 77; (with_reducible refine (impl_restMod.calls (wrap64 (a1_1 - a0_0)) a1_0 t383 _ A60.out).mono ?_); rintro e w' ⟨rfl, ⟨nd, rfl⟩⟩; (try first | exact ⟨rfl, _, World.drewN_drewN _ _ _⟩ | exact ⟨rfl, _, Eq.trans (World.drewN_drewN _ _ _) (congrArg (World.drewN _) (Nat.add_assoc _ _ _))⟩)) | (go_at_call 77; (with_reducible refine (impl_restMod.calls (wrap64 (a0_1 - a1_1)) a1_0 t384 _ A61.out).mono ?_); rintro e w' ⟨rfl, ⟨nd, rfl⟩⟩; (try first | exact ⟨rfl, _, World.drewN_drewN _ _ _⟩ | exact ⟨rfl, _, Eq.trans (World.drewN_drewN _ _ _) (congrArg (World.drewN _) (Nat.add_assoc _ _ _))⟩); (try (obtain ⟨hcz85_0, hcz85_1, hcz85_2, hcz85_3, hfz85_0, hfz85_1, hfz85_2, hfz85_3⟩ := sqc4 BK366)))))
    refine bodyPost_ret (results_cell_row rfl _ _ gb366 60 #[.int .i64 (wrap64 (a0_0 + t383)), .int .i64 (wrap64 (a0_1 - t384)), .int .i64 a1_0, .int .i64 a1_1] (0, 0) _ rfl (by refine sqt ?_; refine blk_put (cs := #[.int .i64 (wrap64 (a0_0 + t383)), .int .i64 (wrap64 (a0_1 - t384)), .int .i64 a1_0, .int .i64 0]) ?_ 3 _ rfl; refine sqt ?_; refine blk_put (cs := #[.int .i64 (wrap64 (a0_0 + t383)), .int .i64 (wrap64 (a0_1 - t384)), .int .i64 0, .int .i64 0]) ?_ 2 _ rfl; refine sqt ?_; refine blk_put (cs := #[.int .i64 (wrap64 (a0_0 + t383)), .int .i64 0, .int .i64 0, .int .i64 0]) ?_ 1 _ rfl; refine sqt ?_; refine blk_put (cs := #[.int .i64 0, .int .i64 0, .int .i64 0, .int .i64 0]) ?_ 0 _ rfl; refine sqt ?_; exact BK366.out) Try.underlying60 rfl (by kernel_rfl)) rfl ?_
    exact sqe HB
   have c71b0 : ((wrap64 (a0_0 + t383)) == (wrap64 (a0_1 - t384))) = true := beq_iff_eq.mpr c71
   have c71b1 : ((wrap64 (a0_0 + t383)) != (wrap64 (a0_1 - t384))) = false := bne_eq_false_iff_eq.mpr c71
   clear c71
   replace H := Option.bind_eq_some_iff.mp H
   obtain ⟨⟨t389, t390, t391, t392⟩, A720, H⟩ := H
   try dsimp only at H
   have A72 := Aside0.mk A720
   clear A720
   simp only [Option.some.injEq, Prod.mk.injEq] at H
   obtain ⟨rfl, rfl, rfl, rfl⟩ := H
   have hnb73 := NB365_364.out
   have hnc73 := NB364_365.out
   have hnb74 := NB365_366.out
   have hnc74 := NB366_365.out
   obtain ⟨hcz75_0, hcz75_1, hfz75_0, hfz75_1⟩ := sqc2 BK365
   have hnb76 := NB364_366.out
   have hnc76 := NB366_364.out
   obtain ⟨hcz77_0, hcz77_1, hfz77_0, hfz77_1⟩ := sqc2 BK364
   go_wp2_with (first | (go_at_call 77; (with_reducible refine (impl_restMod.calls (wrap64 (a1_1 - a0_0)) a1_0 t383 _ A60.out).mono ?_); rintro e w' ⟨rfl, ⟨nd, rfl⟩⟩; (try first | exact ⟨rfl, _, World.drewN_drewN _ _ _⟩ | exact ⟨rfl, _, Eq.trans (World.drewN_drewN _ _ _) (congrArg (World.drewN _) (Nat.add_assoc _ _ _))⟩)) | (go_at_call 77; (with_reducible refine (impl_restMod.calls (wrap64 (a0_1 - a1_1)) a1_0 t384 _ A61.out).mono ?_); rintro e w' ⟨rfl, ⟨nd, rfl⟩⟩; (try first | exact ⟨rfl, _, World.drewN_drewN _ _ _⟩ | exact ⟨rfl, _, Eq.trans (World.drewN_drewN _ _ _) (congrArg (World.drewN _) (Nat.add_assoc _ _ _))⟩)) | (go_at_call 81; (with_reducible refine (impl_valOne.calls (wrap64 (a0_0 + t383)) t389 t390 t391 t392 _ A72.out).mono ?_); rintro e w78 ⟨rfl, hb⟩; refine sqM3 BK364 BK365 BK366 hb ?_; clear BK364 BK365 BK366; intro BK364 BK365 BK366; replace HB := sqs HB hb; (try clear hb); obtain ⟨hcz79_0, hcz79_1, hcz79_2, hcz79_3, hfz79_0, hfz79_1, hfz79_2, hfz79_3⟩ := sqc4 BK366))
   repeat (go_quiet (first | (go_at_call 77; (with_reducible refine (impl_restMod.calls (wrap64 (a1_1 - a0_0)) a1_0 t383 _ A60.out).mono ?_); rintro e w' ⟨rfl, ⟨nd, rfl⟩⟩; (try first | exact ⟨rfl, _, World.drewN_drewN _ _ _⟩ | exact ⟨rfl, _, Eq.trans (World.drewN_drewN _ _ _) (congrArg (World.drewN _) (Nat.add_assoc _ _ _))⟩)) | (go_at_call 77; (with_reducible refine (impl_restMod.calls (wrap64 (a0_1 - a1_1)) a1_0 t384 _ A61.out).mono ?_); rintro e w' ⟨rfl, ⟨nd, rfl⟩⟩; (try first | exact ⟨rfl, _, World.drewN_drewN _ _ _⟩ | exact ⟨rfl, _, Eq.trans (World.drewN_drewN _ _ _) (congrArg (World.drewN _) (Nat.add_assoc _ _ _))⟩)) | (go_at_call 81; (with_reducible refine (impl_valOne.calls (wrap64 (a0_0 + t383)) t389 t390 t391 t392 _ A72.out).mono ?_); rintro e w78 ⟨rfl, hb⟩; refine sqM3 BK364 BK365 BK366 hb ?_; clear BK364 BK365 BK366; intro BK364 BK365 BK366; replace HB := sqs HB hb; (try clear hb); obtain ⟨hcz79_0, hcz79_1, hcz79_2, hcz79_3, hfz79_0, hfz79_1, hfz79_2, hfz79_3⟩ := sqc4 BK366)); try go_wp2_with (first | (go_at_call 77; (with_reducible refine (impl_restMod.calls (wrap64 (a1_1 - a0_0)) a1_0 t383 _ A60.out).mono ?_); rintro e w' ⟨rfl, ⟨nd, rfl⟩⟩; (try first | exact ⟨rfl, _, World.drewN_drewN _ _ _⟩ | exact ⟨rfl, _, Eq.trans (World.drewN_drewN _ _ _) (congrArg (World.drewN _) (Nat.add_assoc _ _ _))⟩)) | (go_at_call 77; (with_reducible refine (impl_restMod.calls (wrap64 (a0_1 - a1_1)) a1_0 t384 _ A61.out).mono ?_); rintro e w' ⟨rfl, ⟨nd, rfl⟩⟩; (try first | exact ⟨rfl, _, World.drewN_drewN _ _ _⟩ | exact ⟨rfl, _, Eq.trans (World.drewN_drewN _ _ _) (congrArg (World.drewN _) (Nat.add_assoc _ _ _))⟩)) | (go_at_call 81; (with_reducible refine (impl_valOne.calls (wrap64 (a0_0 + t383)) t389 t390 t391 t392 _ A72.out).mono ?_); rintro e w78 ⟨rfl, hb⟩; refine sqM3 BK364 BK365 BK366 hb ?_; clear BK364 BK365 BK366; intro BK364 BK365 BK366; replace HB := sqs HB hb; (try clear hb); obtain ⟨hcz79_0, hcz79_1, hcz79_2, hcz79_3, hfz79_0, hfz79_1, hfz79_2, hfz79_3⟩ := sqc4 BK366)))
   refine bodyPost_ret (results_cell_row rfl _ _ gb366 60 #[.int .i64 t389, .int .i64 t390, .int .i64 t391, .int .i64 t392] (0, 0) _ rfl (by refine sqt ?_; refine blk_put (cs := #[.int .i64 t389, .int .i64 t390, .int .i64 t391, .int .i64 0]) ?_ 3 _ rfl; refine sqt ?_; refine blk_put (cs := #[.int .i64 t389, .int .i64 t390, .int .i64 0, .int .i64 0]) ?_ 2 _ rfl; refine sqt ?_; refine blk_put (cs := #[.int .i64 t389, .int .i64 0, .int .i64 0, .int .i64 0]) ?_ 1 _ rfl; refine sqt ?_; refine blk_put (cs := #[.int .i64 0, .int .i64 0, .int .i64 0, .int .i64 0]) ?_ 0 _ rfl; refine sqt ?_; exact BK366.out) Try.underlying60 rfl (by kernel_rfl)) rfl ?_
   exact sqe HB

/-! ### impl_ValOk: function 57 -/
def impl_ValOk.T1 : Bool × List (List Nat × List Nat) := (true, [([], []), ([], []), ([1], [1]), ([], []), ([3, 2], [3]), ([2, 4, 4], [2, 4]), ([0, 5], [0, 5]), ([6, 5, 0, 1, 2, 3, 4, 5, 6], [6])])
def impl_ValOk.B1 : List Nat := [0, 0, 2, 0, 14, 30, 63, 127]
theorem impl_ValOk.tab1 : rtab .any (opsOf Try.f57 1) = impl_ValOk.T1 := by kernel_rfl
theorem impl_ValOk.bits1 : waitsOk impl_ValOk.T1.2 impl_ValOk.B1 = true := by kernel_rfl
set_option maxHeartbeats 8000000 in
set_option maxRecDepth 100000 in
theorem impl_ValOk.calls (k : Nat) (a0_0 : Int) (a0_1 : Int) (a0_2 : Int) (a0_3 : Int) (r : Bool) (w : World) (h : impl_ValOk.f k a0_0 a0_1 a0_2 a0_3 = some r) :
  Calls Try.prog 57 #[.agg #[.int .i64 a0_0, .int .i64 a0_1, .int .i64 a0_2, .int .i64 a0_3]] w fun e w' => e = .returned (.bool r) ∧ Below w.heap.size w w' := by
 have hu60 := Try.underlying60
 have HB := Aside0.mk (Below.refl w.heap.size w)
 have H := h
 unfold impl_ValOk.f at H
 clear h
 replace H := Option.bind_eq_some_iff.mp H
 obtain ⟨⟨t394, t395⟩, A20, H⟩ := H
 try dsimp only at H
 have A2 := Aside0.mk A20
 clear A20
 replace H := Option.bind_eq_some_iff.mp H
 obtain ⟨⟨t396, t397⟩, A30, H⟩ := H
 try dsimp only at H
 have A3 := Aside0.mk A30
 clear A30
 replace H := Option.bind_eq_some_iff.mp H
 obtain ⟨⟨t398, t399, t400, t401⟩, A40, H⟩ := H
 try dsimp only at H
 have A4 := Aside0.mk A40
 clear A40
 obtain rfl := Option.some.inj H
 go_enter Try.func57, Try.ntmps57
 try go_wp2_with (first | ((with_reducible refine gate_dst (N := 1) rfl ?_); refine sqx 1 #[.int .i64 a0_0, .int .i64 a0_1, .int .i64 a0_2, .int .i64 a0_3] 60 ?_; intro gb393 hg w5 hbox hb; have BK393 := Aside0.mk hbox; have GW393 := sqg HB hg; have GE393 := sqg HB hg; replace HB := sqs HB hb; clear hb hbox hg))
 replace BK393 := Aside0.mk (blk_drew BK393.out)
 replace HB := Aside0.mk (below_drew1 HB.out)
 refine start_ (n := 8) (S := fun w' => w'.cell? ⟨gb393, 0, none⟩ = some (.int .i64 a0_0) ∧ w'.cell? ⟨gb393, 1, none⟩ = some (.int .i64 a0_1) ∧ w'.cell? ⟨gb393, 2, none⟩ = some (.int .i64 a0_2) ∧ w'.cell? ⟨gb393, 3, none⟩ = some (.int .i64 a0_3)) (ds := []) #[false, false, false, false, false, false, false, false] (by kernel_rfl) rfl rfl sqz (fun hHeld => ?_); refine with_tabW impl_ValOk.tab1 impl_ValOk.bits1 (fun HT_ HW_ => ?_)
 generalize w5.drew = w6 at BK393 HB hHeld ⊢
 refine sqw HT_ HW_ 0 3 hHeld ?_
 refine sqw HT_ HW_ 1 4 hHeld ?_
 refine sqw HT_ HW_ 3 6 hHeld ?_
 refine sqo HT_ 2 5 (fun K hK => ?_)
 refine sqG Try.func61 #[.agg #[.int .i64 a0_0, .int .i64 a0_1, .int .i64 a0_2, .int .i64 a0_3]] ?_
 with_reducible refine (impl_Val_span.calls a0_0 a0_1 a0_2 a0_3 t394 t395 _ A2.out).mono ?_
 rintro e w7 ⟨rfl, hb⟩
 refine ⟨_, rfl, ?_⟩
 replace BK393 := sqb BK393 hb
 replace HB := sqs HB hb
 (try clear hb)
 refine hK.out _ _ sqz (fun hHeld => ?_)
 clear hK K
 refine sqnm ?_
 refine sqo HT_ 4 7 (fun K hK => ?_)
 refine sqG Try.func63 #[.agg #[.int .i64 a0_0, .int .i64 a0_1, .int .i64 a0_2, .int .i64 a0_3]] ?_
 with_reducible refine (impl_Val_rest.calls a0_0 a0_1 a0_2 a0_3 t396 t397 _ A3.out).mono ?_
 rintro e w8 ⟨rfl, hb⟩
 refine ⟨_, rfl, ?_⟩
 replace BK393 := sqb BK393 hb
 replace HB := sqs HB hb
 (try clear hb)
 refine hK.out _ _ sqz (fun hHeld => ?_)
 clear hK K
 refine sqnm ?_
 refine sqo HT_ 5 8 (fun K hK => ?_)
 refine sqG Try.func74 #[.agg #[.int .i64 t394, .int .i64 t395], .agg #[.int .i64 t396, .int .i64 t397]] ?_
 with_reducible refine (impl_ValMake.calls k t394 t395 t396 t397 t398 t399 t400 t401 _ A4.out).mono ?_
 rintro e w9 ⟨rfl, hb⟩
 refine ⟨_, rfl, ?_⟩
 replace BK393 := sqb BK393 hb
 replace HB := sqs HB hb
 (try clear hb)
 refine hK.out _ _ sqz (fun hHeld => ?_)
 clear hK K
 refine sqnm ?_
 refine sqp HT_ 6 9 ?_
 refine sqp HT_ 7 2 ?_
 refine done_ (done_of HT_.out (by kernel_rfl)) ?_
 try go_wp2
 go_ret
 exact sqe HB

end Go.Proofs.Ytnmgckdgmplddaa.PFnExactAbsHas
