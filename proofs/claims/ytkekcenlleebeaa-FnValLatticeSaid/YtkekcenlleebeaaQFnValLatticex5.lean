/- Functions of the program as plain Lean functions, and that calls of them come to what these tell. Conditions: those in each law. -/
import Derived.Test.YtkekcenlleebeaaSq
import Derived.Test.YtkekcenlleebeaaDFnValLattice
import Derived.Test.YtkekcenlleebeaaQFnValLatticex0
import Derived.Test.YtkekcenlleebeaaQFnValLatticex3
import Derived.Test.YtkekcenlleebeaaQFnValLatticex4
namespace Go.Proofs.Ytkekcenlleebeaa.PFnValLattice
open Go.RowKit Go.Proofs.Ytkekcenlleebeaa.Sq Go.Proofs.YtkekcenlleebeaaW.PrintWords Go.Proofs.YtkekcenlleebeaaW.PrintLast Go.Proofs.YtkekcenlleebeaaW.PrintMore
attribute [local go_sem] max2_int min2_int max_two min_two max_three min_three max_four min_four   -- for this text's walks alone
set_option linter.unusedVariables false
set_option linter.unusedSimpArgs false

attribute [local go_sem high] eqA30
/-! ### impl_RestOk: function 65 -/
set_option maxHeartbeats 8000000 in
set_option maxRecDepth 100000 in
theorem impl_RestOk.calls (a0_0 : Int) (a0_1 : Int) (r : Bool) (w : World) (h : impl_RestOk.f a0_0 a0_1 = some r) :
  Calls Try.prog 65 #[.agg #[.int .i64 a0_0, .int .i64 a0_1]] w fun e w' => e = .returned (.bool r) ∧ Below w.heap.size w w' := by
 have hu26 := Try.underlying26
 have HB := Aside0.mk (Below.refl w.heap.size w)
 have H := h
 unfold impl_RestOk.f at H
 clear h
 replace H := sqj H
 rcases H with ⟨c2, H⟩ | ⟨c2, H⟩
 ·have c2b0 : (a0_0 == 0) = true := beq_iff_eq.mpr c2
  have c2b1 : (a0_0 != 0) = false := bne_eq_false_iff_eq.mpr c2
  clear c2
  replace H := sqbi H
  obtain ⟨t110, A3, H⟩ := H
  try dsimp only at H
  obtain rfl := Option.some.inj H
  go_enter Try.func65, Try.ntmps65
  go_wp2_with (first | ((with_reducible refine gate_dst (N := 1) rfl ?_); refine sqx 1 #[.int .i64 a0_0, .int .i64 a0_1] 26 ?_; intro gb109 hg w4 hbox hb; have BK109 := Aside0.mk hbox; have GW109 := sqg HB hg; replace HB := sqs HB hb; clear hb hbox hg; obtain ⟨_, _, _, _⟩ := sqc2 BK109) | ((with_reducible refine gate_callee (f := 117) rfl ?_); refine sqL (some 8) Try.func117 #[.int .i64 a0_1] ?_; (with_reducible refine (impl_NumOk.calls a0_1 t110 _ A3.out).mono ?_); rintro e w' ⟨rfl, ⟨nd, rfl⟩⟩; refine ⟨_, rfl, ?_⟩))
  go_ret
  exact sqe HB
 have c2b0 : (a0_0 == 0) = false := beq_eq_false_iff_ne.mpr c2
 have c2b1 : (a0_0 != 0) = true := bne_iff_ne.mpr c2
 replace H := sqi H
 rcases H with ⟨c6, H⟩ | ⟨c6, H⟩
 ·have c6b0 : decide (1 ≤ a0_0) = false := decide_eq_false c6
  clear c6
  obtain rfl := Option.some.inj H
  go_enter Try.func65, Try.ntmps65
  go_wp2_with (first | ((with_reducible refine gate_dst (N := 1) rfl ?_); refine sqx 1 #[.int .i64 a0_0, .int .i64 a0_1] 26 ?_; intro gb109 hg w15 hbox hb; have BK109 := Aside0.mk hbox; have GW109 := sqg HB hg; replace HB := sqs HB hb; clear hb hbox hg; obtain ⟨_, _, _, _⟩ := sqc2 BK109))
  go_ret
  exact sqe HB
 have c6b0 : decide (1 ≤ a0_0) = true := decide_eq_true c6
 clear c6
 replace H := sqi H
 rcases H with ⟨c7, H⟩ | ⟨c7, H⟩
 ·have c7b0 := decide_eq_false c7
  clear c7
  obtain rfl := Option.some.inj H
  go_enter Try.func65, Try.ntmps65
  go_wp2_with (first | ((with_reducible refine gate_dst (N := 1) rfl ?_); refine sqx 1 #[.int .i64 a0_0, .int .i64 a0_1] 26 ?_; intro gb109 hg w13 hbox hb; have BK109 := Aside0.mk hbox; have GW109 := sqg HB hg; replace HB := sqs HB hb; clear hb hbox hg; obtain ⟨_, _, _, _⟩ := sqc2 BK109))
  go_ret
  exact sqe HB
 have c7b0 := decide_eq_true c7
 clear c7
 replace H := sqj H
 rcases H with ⟨c8, H⟩ | ⟨c8, H⟩
 ·have c8b0 : decide (0 ≤ a0_1) = true := decide_eq_true c8
  clear c8
  obtain rfl := Option.some.inj H
  go_enter Try.func65, Try.ntmps65
  go_wp2_with (first | ((with_reducible refine gate_dst (N := 1) rfl ?_); refine sqx 1 #[.int .i64 a0_0, .int .i64 a0_1] 26 ?_; intro gb109 hg w9 hbox hb; have BK109 := Aside0.mk hbox; have GW109 := sqg HB hg; replace HB := sqs HB hb; clear hb hbox hg; obtain ⟨_, _, _, _⟩ := sqc2 BK109))
  go_ret
  exact sqe HB
 have c8b0 : decide (0 ≤ a0_1) = false := decide_eq_false c8
 clear c8
 obtain rfl := Option.some.inj H
 go_enter Try.func65, Try.ntmps65
 go_wp2_with (first | ((with_reducible refine gate_dst (N := 1) rfl ?_); refine sqx 1 #[.int .i64 a0_0, .int .i64 a0_1] 26 ?_; intro gb109 hg w11 hbox hb; have BK109 := Aside0.mk hbox; have GW109 := sqg HB hg; replace HB := sqs HB hb; clear hb hbox hg; obtain ⟨_, _, _, _⟩ := sqc2 BK109))
 go_ret
 exact sqe HB

/-! ### impl_Range_empty: function 95 -/
set_option maxHeartbeats 8000000 in
set_option maxRecDepth 100000 in
theorem impl_Range_empty.calls (a0_0 : Int) (a0_1 : Int) (r : Bool) (w : World) (h : impl_Range_empty.f a0_0 a0_1 = some r) :
  Calls Try.prog 95 #[.agg #[.int .i64 a0_0, .int .i64 a0_1]] w fun e w' => e = .returned (.bool r) ∧ Below w.heap.size w w' := by
 have hu24 := Try.underlying24
 have HB := Aside0.mk (Below.refl w.heap.size w)
 have H := h
 unfold impl_Range_empty.f at H
 clear h
 obtain rfl := Option.some.inj H
 go_enter Try.func95, Try.ntmps95
 go_wp2_with (first | ((with_reducible refine gate_dst (N := 1) rfl ?_); refine sqx 1 #[.int .i64 a0_0, .int .i64 a0_1] 24 ?_; intro gb111 hg w2 hbox hb; have BK111 := Aside0.mk hbox; have GW111 := sqg HB hg; replace HB := sqs HB hb; clear hb hbox hg; obtain ⟨_, _, _, _⟩ := sqc2 BK111))
 go_ret
 exact sqe HB

/-! ### impl_valNone: function 96 -/
set_option maxHeartbeats 8000000 in
set_option maxRecDepth 100000 in
theorem impl_valNone.calls  (r1 : Int) (r2 : Int) (r3 : Int) (r4 : Int) (w : World) (h : impl_valNone.f  = some (r1, r2, r3, r4)) :
  Calls Try.prog 96 #[] w fun e w' => e = .returned (.agg #[.int .i64 r1, .int .i64 r2, .int .i64 r3, .int .i64 r4]) ∧ Below w.heap.size w w' := by
 have hu30 := Try.underlying30
 have HB := Aside0.mk (Below.refl w.heap.size w)
 have H := h
 unfold impl_valNone.f at H
 clear h
 simp only [Option.some.injEq, Prod.mk.injEq] at H
 obtain ⟨rfl, rfl, rfl, rfl⟩ := H
 go_enter Try.func96, Try.ntmps96
 go_wp2_with (first | ((with_reducible refine gate_dst (N := 0) rfl ?_); refine sqx 0 #[.int .i64 0, .int .i64 0, .int .i64 0, .int .i64 0] 30 ?_; intro gb112 hg w1 hbox hb; have BK112 := Aside0.mk hbox; have GW112 := sqg HB hg; replace HB := sqs HB hb; clear hb hbox hg; obtain ⟨_, _, _, _, _, _, _, _⟩ := sqc4 BK112))
 refine bodyPost_ret (results_cell_row rfl _ _ gb112 30 #[.int .i64 1, .int .i64 0, .int .i64 0, .int .i64 0] (0, 0) _ rfl (sqP BK112) Try.underlying30 rfl (by kernel_rfl)) rfl ?_
 exact sqe HB

/-! ### impl_valOne: function 97 -/
set_option maxHeartbeats 8000000 in
set_option maxRecDepth 100000 in
theorem impl_valOne.calls (a0 : Int) (r1 : Int) (r2 : Int) (r3 : Int) (r4 : Int) (w : World) (h : impl_valOne.f a0 = some (r1, r2, r3, r4)) :
  Calls Try.prog 97 #[.int .i64 a0] w fun e w' => e = .returned (.agg #[.int .i64 r1, .int .i64 r2, .int .i64 r3, .int .i64 r4]) ∧ Below w.heap.size w w' := by
 have hu30 := Try.underlying30
 have HB := Aside0.mk (Below.refl w.heap.size w)
 have H := h
 unfold impl_valOne.f at H
 clear h
 simp only [Option.some.injEq, Prod.mk.injEq] at H
 obtain ⟨rfl, rfl, rfl, rfl⟩ := H
 go_enter Try.func97, Try.ntmps97
 go_wp2_with (first | ((with_reducible refine gate_dst (N := 2) rfl ?_); refine sqx 2 #[.int .i64 0, .int .i64 0, .int .i64 0, .int .i64 0] 30 ?_; intro gb113 hg w2 hbox hb; have BK113 := Aside0.mk hbox; have GW113 := sqg HB hg; replace HB := sqs HB hb; clear hb hbox hg; obtain ⟨_, _, _, _, _, _, _, _⟩ := sqc4 BK113))
 refine bodyPost_ret (results_cell_row rfl _ _ gb113 30 #[.int .i64 a0, .int .i64 a0, .int .i64 0, .int .i64 a0] (0, 0) _ rfl (sqP BK113) Try.underlying30 rfl (by kernel_rfl)) rfl ?_
 exact sqe HB

/-! ### impl_restMod: function 98 -/
set_option maxHeartbeats 8000000 in
set_option maxRecDepth 100000 in
theorem impl_restMod.calls (a0 : Int) (a1 : Int) (r : Int) (w : World) (h : impl_restMod.f a0 a1 = some r) :
  Calls Try.prog 98 #[.int .i64 a0, .int .i64 a1] w fun e w' => e = .returned (.int .i64 r) ∧ Drawn0 w w' := by
 have H := h
 unfold impl_restMod.f at H
 clear h
 replace H := sqj H
 rcases H with ⟨c3, H⟩ | ⟨c3, H⟩
 ·exact absurd H (by simp)
 have c3b0 : (a1 == 0) = false := beq_eq_false_iff_ne.mpr c3
 have c3b1 : (a1 != 0) = true := bne_iff_ne.mpr c3
 replace H := sqj H
 rcases H with ⟨c4, H⟩ | ⟨c4, H⟩
 ·have c4b0 := decide_eq_true c4
  clear c4
  obtain rfl := Option.some.inj H
  go_enter Try.func98, Try.ntmps98
  go_wp2
  go_ret
  exact ⟨by first | rfl | (simp; done) | (simp [*]; done), by repeat (first | exact Drawn0.refl _ | apply Drawn0.step)⟩
 have c4b0 := decide_eq_false c4
 clear c4
 obtain rfl := Option.some.inj H
 go_enter Try.func98, Try.ntmps98
 go_wp2
 go_ret
 exact ⟨by first | rfl | (simp; done) | (simp [*]; done), by repeat (first | exact Drawn0.refl _ | apply Drawn0.step)⟩

/-! ### impl_ValMake: function 16 -/
set_option maxHeartbeats 8000000 in
set_option maxRecDepth 100000 in
theorem impl_ValMake.calls (k : Nat) (a0_0 : Int) (a0_1 : Int) (a1_0 : Int) (a1_1 : Int) (r1 : Int) (r2 : Int) (r3 : Int) (r4 : Int) (w : World) (h : impl_ValMake.f k a0_0 a0_1 a1_0 a1_1 = some (r1, r2, r3, r4)) :
  Calls Try.prog 16 #[.agg #[.int .i64 a0_0, .int .i64 a0_1], .agg #[.int .i64 a1_0, .int .i64 a1_1]] w fun e w' => e = .returned (.agg #[.int .i64 r1, .int .i64 r2, .int .i64 r3, .int .i64 r4]) ∧ Below w.heap.size w w' := by
 have hu24 := Try.underlying24
 have hu26 := Try.underlying26
 have hu30 := Try.underlying30
 have HB := Aside0.mk (Below.refl w.heap.size w)
 have H := h
 unfold impl_ValMake.f at H
 clear h
 have HC3 := Aside0.mk H
 clear H
 go_enter Try.func16, Try.ntmps16
 go_upto_region 1 with (first | ((with_reducible refine gate_dst (N := 2) rfl ?_); refine sqx 2 #[.int .i64 a0_0, .int .i64 a0_1] 24 ?_; intro gb114 hg w4 hbox hb; have BK114 := Aside0.mk hbox; have GW114 := sqg HB hg; replace HB := sqs HB hb; clear hb hbox hg) | ((with_reducible refine gate_dst (N := 3) rfl ?_); refine sqx 3 #[.int .i64 a1_0, .int .i64 a1_1] 26 ?_; intro gb115 hg w5 hbox hb; have BK115 := Aside0.mk hbox; have GW115 := sqg HB hg; have NB114_115 := sqn BK114 hg; have NB115_114 := sqm BK114 hg; replace BK114 := sqb BK114 hb; replace HB := sqs HB hb; clear hb hbox hg) | ((with_reducible refine gate_dst (N := 4) rfl ?_); refine sqx 4 #[.int .i64 0, .int .i64 0, .int .i64 0, .int .i64 0] 30 ?_; intro gb116 hg w6 hbox hb; have BK116 := Aside0.mk hbox; have GW116 := sqg HB hg; have NB114_116 := sqn BK114 hg; have NB116_114 := sqm BK114 hg; have NB115_116 := sqn BK115 hg; have NB116_115 := sqm BK115 hg; refine sqM2 BK114 BK115 hb ?_; clear BK114 BK115; intro BK114 BK115; replace HB := sqs HB hb; clear hb hbox hg))
 repeat (go_quiet (first | ((with_reducible refine gate_dst (N := 2) rfl ?_); refine sqx 2 #[.int .i64 a0_0, .int .i64 a0_1] 24 ?_; intro gb114 hg w4 hbox hb; have BK114 := Aside0.mk hbox; have GW114 := sqg HB hg; replace HB := sqs HB hb; clear hb hbox hg) | ((with_reducible refine gate_dst (N := 3) rfl ?_); refine sqx 3 #[.int .i64 a1_0, .int .i64 a1_1] 26 ?_; intro gb115 hg w5 hbox hb; have BK115 := Aside0.mk hbox; have GW115 := sqg HB hg; have NB114_115 := sqn BK114 hg; have NB115_114 := sqm BK114 hg; replace BK114 := sqb BK114 hb; replace HB := sqs HB hb; clear hb hbox hg) | ((with_reducible refine gate_dst (N := 4) rfl ?_); refine sqx 4 #[.int .i64 0, .int .i64 0, .int .i64 0, .int .i64 0] 30 ?_; intro gb116 hg w6 hbox hb; have BK116 := Aside0.mk hbox; have GW116 := sqg HB hg; have NB114_116 := sqn BK114 hg; have NB116_114 := sqm BK114 hg; have NB115_116 := sqn BK115 hg; have NB116_115 := sqm BK115 hg; refine sqM2 BK114 BK115 hb ?_; clear BK114 BK115; intro BK114 BK115; replace HB := sqs HB hb; clear hb hbox hg)); go_upto_region 1 with (first | ((with_reducible refine gate_dst (N := 2) rfl ?_); refine sqx 2 #[.int .i64 a0_0, .int .i64 a0_1] 24 ?_; intro gb114 hg w4 hbox hb; have BK114 := Aside0.mk hbox; have GW114 := sqg HB hg; replace HB := sqs HB hb; clear hb hbox hg) | ((with_reducible refine gate_dst (N := 3) rfl ?_); refine sqx 3 #[.int .i64 a1_0, .int .i64 a1_1] 26 ?_; intro gb115 hg w5 hbox hb; have BK115 := Aside0.mk hbox; have GW115 := sqg HB hg; have NB114_115 := sqn BK114 hg; have NB115_114 := sqm BK114 hg; replace BK114 := sqb BK114 hb; replace HB := sqs HB hb; clear hb hbox hg) | ((with_reducible refine gate_dst (N := 4) rfl ?_); refine sqx 4 #[.int .i64 0, .int .i64 0, .int .i64 0, .int .i64 0] 30 ?_; intro gb116 hg w6 hbox hb; have BK116 := Aside0.mk hbox; have GW116 := sqg HB hg; have NB114_116 := sqn BK114 hg; have NB116_114 := sqm BK114 hg; have NB115_116 := sqn BK115 hg; have NB116_115 := sqm BK115 hg; refine sqM2 BK114 BK115 hb ?_; clear BK114 BK115; intro BK114 BK115; replace HB := sqs HB hb; clear hb hbox hg)))
 (try simp only [Act.put, List.setIfInBounds_toArray, List.set_cons_zero, List.set_cons_succ])
 go_cut [18] (fun v18 wc => ∃ (kq : Nat) (x18_2 : Bool), v18 = .bool x18_2 ∧ Aside0 (impl_ValMake.j0 kq x18_2 a0_0 a0_1 a1_0 a1_1 = some (r1, r2, r3, r4)) ∧ Aside0 (kq ≤ k) ∧ Aside0 (wc.heap[gb114]? = some (.cells #[.int .i64 a0_0, .int .i64 a0_1] 24 (0, 0))) ∧ Aside0 (wc.heap[gb115]? = some (.cells #[.int .i64 a1_0, .int .i64 a1_1] 26 (0, 0))) ∧ Aside0 (wc.heap[gb116]? = some (.cells #[.int .i64 0, .int .i64 0, .int .i64 0, .int .i64 0] 30 (0, 0))) ∧ Aside0 (Below w.heap.size w wc))
 case first =>
  have H := HC3.out
  clear HC3
  replace H := sqbi H
  obtain ⟨t117, A7, H⟩ := H
  try dsimp only at H
  rcases sqI (t117 = true) with c8 | c8
  ·replace c8 := Bool.eq_false_iff.mpr c8
   subst c8
   have H1 : (impl_ValMake.j0 k true a0_0 a0_1 a1_0 a1_1) = some (r1, r2, r3, r4) := by rw [if_neg (show ¬ (false = true) by decide)] at H; exact H
   clear H
   have H := H1
   clear H1
   have H' := Aside0.mk H
   clear H
   obtain ⟨hnb28, hnc28, hnb29, hnc29⟩ := sqN2 NB114_115 NB114_116
   obtain ⟨hcz30_0, hcz30_1, hfz30_0, hfz30_1⟩ := sqc2 BK114
   go_wp2_with (first | (go_at_call 76; (with_reducible refine (impl_RangeOk.calls a0_0 a0_1 false _ A7.out).mono ?_); rintro e w31 ⟨rfl, hb⟩; refine sqM3 BK114 BK115 BK116 hb ?_; clear BK114 BK115 BK116; intro BK114 BK115 BK116; replace HB := sqs HB hb; (try clear hb)))
   repeat (go_quiet (first | (go_at_call 76; (with_reducible refine (impl_RangeOk.calls a0_0 a0_1 false _ A7.out).mono ?_); rintro e w31 ⟨rfl, hb⟩; refine sqM3 BK114 BK115 BK116 hb ?_; clear BK114 BK115 BK116; intro BK114 BK115 BK116; replace HB := sqs HB hb; (try clear hb))); try go_wp2_with (first | (go_at_call 76; (with_reducible refine (impl_RangeOk.calls a0_0 a0_1 false _ A7.out).mono ?_); rintro e w31 ⟨rfl, hb⟩; refine sqM3 BK114 BK115 BK116 hb ?_; clear BK114 BK115 BK116; intro BK114 BK115 BK116; replace HB := sqs HB hb; (try clear hb))))
   go_meet
   case rel => exact ⟨_, (true), (by first | rfl | (simp; done) | (simp [*]; done)), H', ⟨by first | omega | exact Nat.le_refl _⟩, sqk BK114, sqk BK115, sqk BK116, sqh HB⟩
  subst c8
  have H1 : ((impl_RestOk.f a1_0 a1_1).bind fun t118 => (if t118 = true then ((impl_Range_empty.f a0_0 a0_1).bind fun t119 => (impl_ValMake.j0 k t119 a0_0 a0_1 a1_0 a1_1)) else (impl_ValMake.j0 k true a0_0 a0_1 a1_0 a1_1))) = some (r1, r2, r3, r4) := by rw [if_pos rfl] at H; exact H
  clear H
  have H := H1
  clear H1
  replace H := sqbi H
  obtain ⟨t118, A9, H⟩ := H
  try dsimp only at H
  rcases sqI (t118 = true) with c10 | c10
  ·replace c10 := Bool.eq_false_iff.mpr c10
   subst c10
   have H1 : (impl_ValMake.j0 k true a0_0 a0_1 a1_0 a1_1) = some (r1, r2, r3, r4) := by rw [if_neg (show ¬ (false = true) by decide)] at H; exact H
   clear H
   have H := H1
   clear H1
   have H' := Aside0.mk H
   clear H
   obtain ⟨hnb21, hnc21, hnb22, hnc22⟩ := sqN2 NB114_115 NB114_116
   obtain ⟨hcz23_0, hcz23_1, hfz23_0, hfz23_1⟩ := sqc2 BK114
   go_wp2_with (first | (go_at_call 76; (with_reducible refine (impl_RangeOk.calls a0_0 a0_1 true _ A7.out).mono ?_); rintro e w24 ⟨rfl, hb⟩; refine sqM3 BK114 BK115 BK116 hb ?_; clear BK114 BK115 BK116; intro BK114 BK115 BK116; replace HB := sqs HB hb; (try clear hb); obtain ⟨hnb25, hnc25⟩ := sqN1 NB115_116; obtain ⟨hcz26_0, hcz26_1, hfz26_0, hfz26_1⟩ := sqc2 BK115) | (go_at_call 65; (with_reducible refine (impl_RestOk.calls a1_0 a1_1 false _ A9.out).mono ?_); rintro e w27 ⟨rfl, hb⟩; refine sqM3 BK114 BK115 BK116 hb ?_; clear BK114 BK115 BK116; intro BK114 BK115 BK116; replace HB := sqs HB hb; (try clear hb)))
   repeat (go_quiet (first | (go_at_call 76; (with_reducible refine (impl_RangeOk.calls a0_0 a0_1 true _ A7.out).mono ?_); rintro e w24 ⟨rfl, hb⟩; refine sqM3 BK114 BK115 BK116 hb ?_; clear BK114 BK115 BK116; intro BK114 BK115 BK116; replace HB := sqs HB hb; (try clear hb); obtain ⟨hnb25, hnc25⟩ := sqN1 NB115_116; obtain ⟨hcz26_0, hcz26_1, hfz26_0, hfz26_1⟩ := sqc2 BK115) | (go_at_call 65; (with_reducible refine (impl_RestOk.calls a1_0 a1_1 false _ A9.out).mono ?_); rintro e w27 ⟨rfl, hb⟩; refine sqM3 BK114 BK115 BK116 hb ?_; clear BK114 BK115 BK116; intro BK114 BK115 BK116; replace HB := sqs HB hb; (try clear hb))); try go_wp2_with (first | (go_at_call 76; (with_reducible refine (impl_RangeOk.calls a0_0 a0_1 true _ A7.out).mono ?_); rintro e w24 ⟨rfl, hb⟩; refine sqM3 BK114 BK115 BK116 hb ?_; clear BK114 BK115 BK116; intro BK114 BK115 BK116; replace HB := sqs HB hb; (try clear hb); obtain ⟨hnb25, hnc25⟩ := sqN1 NB115_116; obtain ⟨hcz26_0, hcz26_1, hfz26_0, hfz26_1⟩ := sqc2 BK115) | (go_at_call 65; (with_reducible refine (impl_RestOk.calls a1_0 a1_1 false _ A9.out).mono ?_); rintro e w27 ⟨rfl, hb⟩; refine sqM3 BK114 BK115 BK116 hb ?_; clear BK114 BK115 BK116; intro BK114 BK115 BK116; replace HB := sqs HB hb; (try clear hb))))
   go_meet
   case rel => exact ⟨_, (true), (by first | rfl | (simp; done) | (simp [*]; done)), H', ⟨by first | omega | exact Nat.le_refl _⟩, sqk BK114, sqk BK115, sqk BK116, sqh HB⟩
  subst c10
  have H1 : ((impl_Range_empty.f a0_0 a0_1).bind fun t119 => (impl_ValMake.j0 k t119 a0_0 a0_1 a1_0 a1_1)) = some (r1, r2, r3, r4) := by rw [if_pos rfl] at H; exact H
  clear H
  have H := H1
  clear H1
  replace H := sqbi H
  obtain ⟨t119, A11, H⟩ := H
  try dsimp only at H
  have H' := Aside0.mk H
  clear H
  obtain ⟨hnb12, hnc12, hnb13, hnc13⟩ := sqN2 NB114_115 NB114_116
  obtain ⟨hcz14_0, hcz14_1, hfz14_0, hfz14_1⟩ := sqc2 BK114
  go_wp2_with (first | (go_at_call 76; (with_reducible refine (impl_RangeOk.calls a0_0 a0_1 true _ A7.out).mono ?_); rintro e w15 ⟨rfl, hb⟩; refine sqM3 BK114 BK115 BK116 hb ?_; clear BK114 BK115 BK116; intro BK114 BK115 BK116; replace HB := sqs HB hb; (try clear hb); obtain ⟨hnb16, hnc16⟩ := sqN1 NB115_116; obtain ⟨hcz17_0, hcz17_1, hfz17_0, hfz17_1⟩ := sqc2 BK115) | (go_at_call 65; (with_reducible refine (impl_RestOk.calls a1_0 a1_1 true _ A9.out).mono ?_); rintro e w18 ⟨rfl, hb⟩; refine sqM3 BK114 BK115 BK116 hb ?_; clear BK114 BK115 BK116; intro BK114 BK115 BK116; replace HB := sqs HB hb; (try clear hb); obtain ⟨hcz19_0, hcz19_1, hfz19_0, hfz19_1⟩ := sqc2 BK114) | (go_at_call 95; (with_reducible refine (impl_Range_empty.calls a0_0 a0_1 t119 _ A11.out).mono ?_); rintro e w20 ⟨rfl, hb⟩; refine sqM3 BK114 BK115 BK116 hb ?_; clear BK114 BK115 BK116; intro BK114 BK115 BK116; replace HB := sqs HB hb; (try clear hb)))
  repeat (go_quiet (first | (go_at_call 76; (with_reducible refine (impl_RangeOk.calls a0_0 a0_1 true _ A7.out).mono ?_); rintro e w15 ⟨rfl, hb⟩; refine sqM3 BK114 BK115 BK116 hb ?_; clear BK114 BK115 BK116; intro BK114 BK115 BK116; replace HB := sqs HB hb; (try clear hb); obtain ⟨hnb16, hnc16⟩ := sqN1 NB115_116; obtain ⟨hcz17_0, hcz17_1, hfz17_0, hfz17_1⟩ := sqc2 BK115) | (go_at_call 65; (with_reducible refine (impl_RestOk.calls a1_0 a1_1 true _ A9.out).mono ?_); rintro e w18 ⟨rfl, hb⟩; refine sqM3 BK114 BK115 BK116 hb ?_; clear BK114 BK115 BK116; intro BK114 BK115 BK116; replace HB := sqs HB hb; (try clear hb); obtain ⟨hcz19_0, hcz19_1, hfz19_0, hfz19_1⟩ := sqc2 BK114) | (go_at_call 95; (with_reducible refine (impl_Range_empty.calls a0_0 a0_1 t119 _ A11.out).mono ?_); rintro e w20 ⟨rfl, hb⟩; refine sqM3 BK114 BK115 BK116 hb ?_; clear BK114 BK115 BK116; intro BK114 BK115 BK116; replace HB := sqs HB hb; (try clear hb))); try go_wp2_with (first | (go_at_call 76; (with_reducible refine (impl_RangeOk.calls a0_0 a0_1 true _ A7.out).mono ?_); rintro e w15 ⟨rfl, hb⟩; refine sqM3 BK114 BK115 BK116 hb ?_; clear BK114 BK115 BK116; intro BK114 BK115 BK116; replace HB := sqs HB hb; (try clear hb); obtain ⟨hnb16, hnc16⟩ := sqN1 NB115_116; obtain ⟨hcz17_0, hcz17_1, hfz17_0, hfz17_1⟩ := sqc2 BK115) | (go_at_call 65; (with_reducible refine (impl_RestOk.calls a1_0 a1_1 true _ A9.out).mono ?_); rintro e w18 ⟨rfl, hb⟩; refine sqM3 BK114 BK115 BK116 hb ?_; clear BK114 BK115 BK116; intro BK114 BK115 BK116; replace HB := sqs HB hb; (try clear hb); obtain ⟨hcz19_0, hcz19_1, hfz19_0, hfz19_1⟩ := sqc2 BK114) | (go_at_call 95; (with_reducible refine (impl_Range_empty.calls a0_0 a0_1 t119 _ A11.out).mono ?_); rintro e w20 ⟨rfl, hb⟩; refine sqM3 BK114 BK115 BK116 hb ?_; clear BK114 BK115 BK116; intro BK114 BK115 BK116; replace HB := sqs HB hb; (try clear hb))))
  go_meet
  case rel => exact ⟨_, (t119), (by first | rfl | (simp; done) | (simp [*]; done)), H', ⟨by first | omega | exact Nat.le_refl _⟩, sqk BK114, sqk BK115, sqk BK116, sqh HB⟩
 case rest =>
  clear HC3
  obtain ⟨kq, x18_2, rfl, HA, HJ2, BK114, BK115, BK116, HB⟩ := hcut
  cases kq with
  | zero => exact absurd HA.out (by simp [impl_ValMake.j0])
  | succ kj2 =>
   have H := HA.out
   clear HA
   simp only [impl_ValMake.j0] at H
   by_cases c32 : x18_2 = true
   ·subst c32
    have H1 : ((impl_valNone.f).bind fun bt120 => (some (bt120.1, bt120.2.1, bt120.2.2.1, bt120.2.2.2))) = some (r1, r2, r3, r4) := by rw [if_pos rfl] at H; exact H
    clear H
    have H := H1
    clear H1
    replace H := sqbi H
    obtain ⟨⟨t120, t121, t122, t123⟩, A33, H⟩ := H
    try dsimp only at H
    simp only [Option.some.injEq, Prod.mk.injEq] at H
    obtain ⟨rfl, rfl, rfl, rfl⟩ := H
    go_wp2_with (first | (go_at_call 96; (with_reducible refine (impl_valNone.calls  t120 t121 t122 t123 _ A33.out).mono ?_); rintro e w34 ⟨rfl, hb⟩; refine sqM3 BK114 BK115 BK116 hb ?_; clear BK114 BK115 BK116; intro BK114 BK115 BK116; replace HB := sqs HB hb; (try clear hb); obtain ⟨hnb35, hnc35, hnb36, hnc36⟩ := sqN2 NB116_114 NB116_115; obtain ⟨hcz37_0, hcz37_1, hcz37_2, hcz37_3, hfz37_0, hfz37_1, hfz37_2, hfz37_3⟩ := sqc4 BK116))
    repeat (go_quiet (first | (go_at_call 96; (with_reducible refine (impl_valNone.calls  t120 t121 t122 t123 _ A33.out).mono ?_); rintro e w34 ⟨rfl, hb⟩; refine sqM3 BK114 BK115 BK116 hb ?_; clear BK114 BK115 BK116; intro BK114 BK115 BK116; replace HB := sqs HB hb; (try clear hb); obtain ⟨hnb35, hnc35, hnb36, hnc36⟩ := sqN2 NB116_114 NB116_115; obtain ⟨hcz37_0, hcz37_1, hcz37_2, hcz37_3, hfz37_0, hfz37_1, hfz37_2, hfz37_3⟩ := sqc4 BK116)); try go_wp2_with (first | (go_at_call 96; (with_reducible refine (impl_valNone.calls  t120 t121 t122 t123 _ A33.out).mono ?_); rintro e w34 ⟨rfl, hb⟩; refine sqM3 BK114 BK115 BK116 hb ?_; clear BK114 BK115 BK116; intro BK114 BK115 BK116; replace HB := sqs HB hb; (try clear hb); obtain ⟨hnb35, hnc35, hnb36, hnc36⟩ := sqN2 NB116_114 NB116_115; obtain ⟨hcz37_0, hcz37_1, hcz37_2, hcz37_3, hfz37_0, hfz37_1, hfz37_2, hfz37_3⟩ := sqc4 BK116)))
    refine bodyPost_ret (results_cell_row rfl _ _ gb116 30 #[.int .i64 t120, .int .i64 t121, .int .i64 t122, .int .i64 t123] (0, 0) _ rfl (sqP BK116) Try.underlying30 rfl (by kernel_rfl)) rfl ?_
    exact sqe HB
   replace c32 := Bool.eq_false_iff.mpr c32
   subst c32
   have H1 : (if a1_0 = 0 then ((impl_RangeHas.f a0_0 a0_1 a1_1).bind fun t124 => (if t124 = true then ((impl_valOne.f a1_1).bind fun bt125 => (some (bt125.1, bt125.2.1, bt125.2.2.1, bt125.2.2.2))) else ((impl_valNone.f).bind fun bt129 => (some (bt129.1, bt129.2.1, bt129.2.2.1, bt129.2.2.2))))) else ((impl_restMod.f (wrap64 (a1_1 - a0_0)) a1_0).bind fun t133 => ((impl_restMod.f (wrap64 (a0_1 - a1_1)) a1_0).bind fun t134 => (if (wrap64 (a0_0 + t133)) > (wrap64 (a0_1 - t134)) then ((impl_valNone.f).bind fun bt135 => (some (bt135.1, bt135.2.1, bt135.2.2.1, bt135.2.2.2))) else (if (wrap64 (a0_0 + t133)) = (wrap64 (a0_1 - t134)) then ((impl_valOne.f (wrap64 (a0_0 + t133))).bind fun bt139 => (some (bt139.1, bt139.2.1, bt139.2.2.1, bt139.2.2.2))) else (some (wrap64 (a0_0 + t133), wrap64 (a0_1 - t134), a1_0, a1_1))))))) = some (r1, r2, r3, r4) := by rw [if_neg (show ¬ (false = true) by decide)] at H; exact H
   clear H
   have H := H1
   clear H1
   replace H := sqj H
   rcases H with ⟨c38, H⟩ | ⟨c38, H⟩
   ·have c38b0 : (a1_0 == 0) = true := beq_iff_eq.mpr c38
    have c38b1 : (a1_0 != 0) = false := bne_eq_false_iff_eq.mpr c38
    clear c38
    replace H := sqbi H
    obtain ⟨t124, A39, H⟩ := H
    try dsimp only at H
    rcases sqI (t124 = true) with c40 | c40
    ·replace c40 := Bool.eq_false_iff.mpr c40
     subst c40
     have H1 : ((impl_valNone.f).bind fun bt129 => (some (bt129.1, bt129.2.1, bt129.2.2.1, bt129.2.2.2))) = some (r1, r2, r3, r4) := by rw [if_neg (show ¬ (false = true) by decide)] at H; exact H
     clear H
     have H := H1
     clear H1
     replace H := sqbi H
     obtain ⟨⟨t129, t130, t131, t132⟩, A51, H⟩ := H
     try dsimp only at H
     simp only [Option.some.injEq, Prod.mk.injEq] at H
     obtain ⟨rfl, rfl, rfl, rfl⟩ := H
     obtain ⟨hnb52, hnc52, hnb53, hnc53⟩ := sqN2 NB115_114 NB115_116
     obtain ⟨hcz54_0, hcz54_1, hfz54_0, hfz54_1⟩ := sqc2 BK115
     obtain ⟨hnb55, hnc55⟩ := sqN1 NB114_116
     obtain ⟨hcz56_0, hcz56_1, hfz56_0, hfz56_1⟩ := sqc2 BK114
     go_wp2_with (first | (go_at_call 48; (with_reducible refine (impl_RangeHas.calls a0_0 a0_1 a1_1 false _ A39.out).mono ?_); rintro e w57 ⟨rfl, hb⟩; refine sqM3 BK114 BK115 BK116 hb ?_; clear BK114 BK115 BK116; intro BK114 BK115 BK116; replace HB := sqs HB hb; (try clear hb)) | (go_at_call 96; (with_reducible refine (impl_valNone.calls  t129 t130 t131 t132 _ A51.out).mono ?_); rintro e w58 ⟨rfl, hb⟩; refine sqM3 BK114 BK115 BK116 hb ?_; clear BK114 BK115 BK116; intro BK114 BK115 BK116; replace HB := sqs HB hb; (try clear hb); obtain ⟨hcz59_0, hcz59_1, hcz59_2, hcz59_3, hfz59_0, hfz59_1, hfz59_2, hfz59_3⟩ := sqc4 BK116))
     repeat (go_quiet (first | (go_at_call 48; (with_reducible refine (impl_RangeHas.calls a0_0 a0_1 a1_1 false _ A39.out).mono ?_); rintro e w57 ⟨rfl, hb⟩; refine sqM3 BK114 BK115 BK116 hb ?_; clear BK114 BK115 BK116; intro BK114 BK115 BK116; replace HB := sqs HB hb; (try clear hb)) | (go_at_call 96; (with_reducible refine (impl_valNone.calls  t129 t130 t131 t132 _ A51.out).mono ?_); rintro e w58 ⟨rfl, hb⟩; refine sqM3 BK114 BK115 BK116 hb ?_; clear BK114 BK115 BK116; intro BK114 BK115 BK116; replace HB := sqs HB hb; (try clear hb); obtain ⟨hcz59_0, hcz59_1, hcz59_2, hcz59_3, hfz59_0, hfz59_1, hfz59_2, hfz59_3⟩ := sqc4 BK116)); try go_wp2_with (first | (go_at_call 48; (with_reducible refine (impl_RangeHas.calls a0_0 a0_1 a1_1 false _ A39.out).mono ?_); rintro e w57 ⟨rfl, hb⟩; refine sqM3 BK114 BK115 BK116 hb ?_; clear BK114 BK115 BK116; intro BK114 BK115 BK116; replace HB := sqs HB hb; (try clear hb)) | (go_at_call 96; (with_reducible refine (impl_valNone.calls  t129 t130 t131 t132 _ A51.out).mono ?_); rintro e w58 ⟨rfl, hb⟩; refine sqM3 BK114 BK115 BK116 hb ?_; clear BK114 BK115 BK116; intro BK114 BK115 BK116; replace HB := sqs HB hb; (try clear hb); obtain ⟨hcz59_0, hcz59_1, hcz59_2, hcz59_3, hfz59_0, hfz59_1, hfz59_2, hfz59_3⟩ := sqc4 BK116)))
     refine bodyPost_ret (results_cell_row rfl _ _ gb116 30 #[.int .i64 t129, .int .i64 t130, .int .i64 t131, .int .i64 t132] (0, 0) _ rfl (sqP BK116) Try.underlying30 rfl (by kernel_rfl)) rfl ?_
     exact sqe HB
    subst c40
    have H1 : ((impl_valOne.f a1_1).bind fun bt125 => (some (bt125.1, bt125.2.1, bt125.2.2.1, bt125.2.2.2))) = some (r1, r2, r3, r4) := by rw [if_pos rfl] at H; exact H
    clear H
    have H := H1
    clear H1
    replace H := sqbi H
    obtain ⟨⟨t125, t126, t127, t128⟩, A41, H⟩ := H
    try dsimp only at H
    simp only [Option.some.injEq, Prod.mk.injEq] at H
    obtain ⟨rfl, rfl, rfl, rfl⟩ := H
    obtain ⟨hnb42, hnc42, hnb43, hnc43⟩ := sqN2 NB115_114 NB115_116
    obtain ⟨hcz44_0, hcz44_1, hfz44_0, hfz44_1⟩ := sqc2 BK115
    obtain ⟨hnb45, hnc45⟩ := sqN1 NB114_116
    obtain ⟨hcz46_0, hcz46_1, hfz46_0, hfz46_1⟩ := sqc2 BK114
    go_wp2_with (first | (go_at_call 48; (with_reducible refine (impl_RangeHas.calls a0_0 a0_1 a1_1 true _ A39.out).mono ?_); rintro e w47 ⟨rfl, hb⟩; refine sqM3 BK114 BK115 BK116 hb ?_; clear BK114 BK115 BK116; intro BK114 BK115 BK116; replace HB := sqs HB hb; (try clear hb); obtain ⟨hcz48_0, hcz48_1, hfz48_0, hfz48_1⟩ := sqc2 BK115) | (go_at_call 97; (with_reducible refine (impl_valOne.calls a1_1 t125 t126 t127 t128 _ A41.out).mono ?_); rintro e w49 ⟨rfl, hb⟩; refine sqM3 BK114 BK115 BK116 hb ?_; clear BK114 BK115 BK116; intro BK114 BK115 BK116; replace HB := sqs HB hb; (try clear hb); obtain ⟨hcz50_0, hcz50_1, hcz50_2, hcz50_3, hfz50_0, hfz50_1, hfz50_2, hfz50_3⟩ := sqc4 BK116))
    repeat (go_quiet (first | (go_at_call 48; (with_reducible refine (impl_RangeHas.calls a0_0 a0_1 a1_1 true _ A39.out).mono ?_); rintro e w47 ⟨rfl, hb⟩; refine sqM3 BK114 BK115 BK116 hb ?_; clear BK114 BK115 BK116; intro BK114 BK115 BK116; replace HB := sqs HB hb; (try clear hb); obtain ⟨hcz48_0, hcz48_1, hfz48_0, hfz48_1⟩ := sqc2 BK115) | (go_at_call 97; (with_reducible refine (impl_valOne.calls a1_1 t125 t126 t127 t128 _ A41.out).mono ?_); rintro e w49 ⟨rfl, hb⟩; refine sqM3 BK114 BK115 BK116 hb ?_; clear BK114 BK115 BK116; intro BK114 BK115 BK116; replace HB := sqs HB hb; (try clear hb); obtain ⟨hcz50_0, hcz50_1, hcz50_2, hcz50_3, hfz50_0, hfz50_1, hfz50_2, hfz50_3⟩ := sqc4 BK116)); try go_wp2_with (first | (go_at_call 48; (with_reducible refine (impl_RangeHas.calls a0_0 a0_1 a1_1 true _ A39.out).mono ?_); rintro e w47 ⟨rfl, hb⟩; refine sqM3 BK114 BK115 BK116 hb ?_; clear BK114 BK115 BK116; intro BK114 BK115 BK116; replace HB := sqs HB hb; (try clear hb); obtain ⟨hcz48_0, hcz48_1, hfz48_0, hfz48_1⟩ := sqc2 BK115) | (go_at_call 97; (with_reducible refine (impl_valOne.calls a1_1 t125 t126 t127 t128 _ A41.out).mono ?_); rintro e w49 ⟨rfl, hb⟩; refine sqM3 BK114 BK115 BK116 hb ?_; clear BK114 BK115 BK116; intro BK114 BK115 BK116; replace HB := sqs HB hb; (try clear hb); obtain ⟨hcz50_0, hcz50_1, hcz50_2, hcz50_3, hfz50_0, hfz50_1, hfz50_2, hfz50_3⟩ := sqc4 BK116)))
    refine bodyPost_ret (results_cell_row rfl _ _ gb116 30 #[.int .i64 t125, .int .i64 t126, .int .i64 t127, .int .i64 t128] (0, 0) _ rfl (sqP BK116) Try.underlying30 rfl (by kernel_rfl)) rfl ?_
    exact sqe HB
   have c38b0 : (a1_0 == 0) = false := beq_eq_false_iff_ne.mpr c38
   have c38b1 : (a1_0 != 0) = true := bne_iff_ne.mpr c38
   replace H := sqbi H
   obtain ⟨t133, A60, H⟩ := H
   try dsimp only at H
   replace H := sqbi H
   obtain ⟨t134, A61, H⟩ := H
   try dsimp only at H
   replace H := sqj H
   rcases H with ⟨c62, H⟩ | ⟨c62, H⟩
   ·have c62b0 : decide ((wrap64 (a0_1 - t134)) < (wrap64 (a0_0 + t133))) = true := decide_eq_true c62
    clear c62
    replace H := sqbi H
    obtain ⟨⟨t135, t136, t137, t138⟩, A63, H⟩ := H
    try dsimp only at H
    simp only [Option.some.injEq, Prod.mk.injEq] at H
    obtain ⟨rfl, rfl, rfl, rfl⟩ := H
    obtain ⟨hnb64, hnc64, hnb65, hnc65⟩ := sqN2 NB115_114 NB115_116
    obtain ⟨hcz66_0, hcz66_1, hfz66_0, hfz66_1⟩ := sqc2 BK115
    obtain ⟨hnb67, hnc67⟩ := sqN1 NB114_116
    obtain ⟨hcz68_0, hcz68_1, hfz68_0, hfz68_1⟩ := sqc2 BK114
    go_wp2_with (first | (go_at_call 98; (with_reducible refine (impl_restMod.calls (wrap64 (a1_1 - a0_0)) a1_0 t133 _ A60.out).mono ?_); rintro e w' ⟨rfl, ⟨nd, rfl⟩⟩; (try first | exact ⟨rfl, _, World.drewN_drewN _ _ _⟩ | exact ⟨rfl, _, sqda⟩)) | (go_at_call 98; (with_reducible refine (impl_restMod.calls (wrap64 (a0_1 - a1_1)) a1_0 t134 _ A61.out).mono ?_); rintro e w' ⟨rfl, ⟨nd, rfl⟩⟩; (try first | exact ⟨rfl, _, World.drewN_drewN _ _ _⟩ | exact ⟨rfl, _, sqda⟩)) | (go_at_call 96; (with_reducible refine (impl_valNone.calls  t135 t136 t137 t138 _ A63.out).mono ?_); rintro e w69 ⟨rfl, hb⟩; refine sqM3 BK114 BK115 BK116 hb ?_; clear BK114 BK115 BK116; intro BK114 BK115 BK116; replace HB := sqs HB hb; (try clear hb); obtain ⟨hcz70_0, hcz70_1, hcz70_2, hcz70_3, hfz70_0, hfz70_1, hfz70_2, hfz70_3⟩ := sqc4 BK116))
    repeat (go_quiet (first | (go_at_call 98; (with_reducible refine (impl_restMod.calls (wrap64 (a1_1 - a0_0)) a1_0 t133 _ A60.out).mono ?_); rintro e w' ⟨rfl, ⟨nd, rfl⟩⟩; (try first | exact ⟨rfl, _, World.drewN_drewN _ _ _⟩ | exact ⟨rfl, _, sqda⟩)) | (go_at_call 98; (with_reducible refine (impl_restMod.calls (wrap64 (a0_1 - a1_1)) a1_0 t134 _ A61.out).mono ?_); rintro e w' ⟨rfl, ⟨nd, rfl⟩⟩; (try first | exact ⟨rfl, _, World.drewN_drewN _ _ _⟩ | exact ⟨rfl, _, sqda⟩)) | (go_at_call 96; (with_reducible refine (impl_valNone.calls  t135 t136 t137 t138 _ A63.out).mono ?_); rintro e w69 ⟨rfl, hb⟩; refine sqM3 BK114 BK115 BK116 hb ?_; clear BK114 BK115 BK116; intro BK114 BK115 BK116; replace HB := sqs HB hb; (try clear hb); obtain ⟨hcz70_0, hcz70_1, hcz70_2, hcz70_3, hfz70_0, hfz70_1, hfz70_2, hfz70_3⟩ := sqc4 BK116)); try go_wp2_with (first | (go_at_call 98; (with_reducible refine (impl_restMod.calls (wrap64 (a1_1 - a0_0)) a1_0 t133 _ A60.out).mono ?_); rintro e w' ⟨rfl, ⟨nd, rfl⟩⟩; (try first | exact ⟨rfl, _, World.drewN_drewN _ _ _⟩ | exact ⟨rfl, _, sqda⟩)) | (go_at_call 98; (with_reducible refine (impl_restMod.calls (wrap64 (a0_1 - a1_1)) a1_0 t134 _ A61.out).mono ?_); rintro e w' ⟨rfl, ⟨nd, rfl⟩⟩; (try first | exact ⟨rfl, _, World.drewN_drewN _ _ _⟩ | exact ⟨rfl, _, sqda⟩)) | (go_at_call 96; (with_reducible refine (impl_valNone.calls  t135 t136 t137 t138 _ A63.out).mono ?_); rintro e w69 ⟨rfl, hb⟩; refine sqM3 BK114 BK115 BK116 hb ?_; clear BK114 BK115 BK116; intro BK114 BK115 BK116; replace HB := sqs HB hb; (try clear hb); obtain ⟨hcz70_0, hcz70_1, hcz70_2, hcz70_3, hfz70_0, hfz70_1, hfz70_2, hfz70_3⟩ := sqc4 BK116)))
    refine bodyPost_ret (results_cell_row rfl _ _ gb116 30 #[.int .i64 t135, .int .i64 t136, .int .i64 t137, .int .i64 t138] (0, 0) _ rfl (sqP BK116) Try.underlying30 rfl (by kernel_rfl)) rfl ?_
    exact sqe HB
   have c62b0 : decide ((wrap64 (a0_1 - t134)) < (wrap64 (a0_0 + t133))) = false := decide_eq_false c62
   clear c62
   replace H := sqi H
   rcases H with ⟨c71, H⟩ | ⟨c71, H⟩
   ·have c71b0 : ((wrap64 (a0_0 + t133)) == (wrap64 (a0_1 - t134))) = false := beq_eq_false_iff_ne.mpr c71
    have c71b1 : ((wrap64 (a0_0 + t133)) != (wrap64 (a0_1 - t134))) = true := bne_iff_ne.mpr c71
    simp only [Option.some.injEq, Prod.mk.injEq] at H
    obtain ⟨rfl, rfl, rfl, rfl⟩ := H
    obtain ⟨hnb80, hnc80, hnb81, hnc81⟩ := sqN2 NB115_114 NB115_116
    obtain ⟨hcz82_0, hcz82_1, hfz82_0, hfz82_1⟩ := sqc2 BK115
    obtain ⟨hnb83, hnc83⟩ := sqN1 NB114_116
    obtain ⟨hcz84_0, hcz84_1, hfz84_0, hfz84_1⟩ := sqc2 BK114
    obtain ⟨hcz85_0, hcz85_1, hcz85_2, hcz85_3, hfz85_0, hfz85_1, hfz85_2, hfz85_3⟩ := sqc4 BK116
    go_wp2_with (first | (go_at_call 98; (with_reducible refine (impl_restMod.calls (wrap64 (a1_1 - a0_0)) a1_0 t133 _ A60.out).mono ?_); rintro e w' ⟨rfl, ⟨nd, rfl⟩⟩; (try first | exact ⟨rfl, _, World.drewN_drewN _ _ _⟩ | exact ⟨rfl, _, sqda⟩)) | (go_at_call 98; (with_reducible refine (impl_restMod.calls (wrap64 (a0_1 - a1_1)) a1_0 t134 _ A61.out).mono ?_); rintro e w' ⟨rfl, ⟨nd, rfl⟩⟩; (try first | exact ⟨rfl, _, World.drewN_drewN _ _ _⟩ | exact ⟨rfl, _, sqda⟩); (try (obtain ⟨hcz85_0, hcz85_1, hcz85_2, hcz85_3, hfz85_0, hfz85_1, hfz85_2, hfz85_3⟩ := sqc4 BK116))))
    repeat (go_quiet (first | (go_at_call 98; (with_reducible refine (impl_restMod.calls (wrap64 (a1_1 - a0_0)) a1_0 t133 _ A60.out).mono ?_); rintro e w' ⟨rfl, ⟨nd, rfl⟩⟩; (try first | exact ⟨rfl, _, World.drewN_drewN _ _ _⟩ | exact ⟨rfl, _, sqda⟩)) | (go_at_call 98; (with_reducible refine (impl_restMod.calls (wrap64 (a0_1 - a1_1)) a1_0 t134 _ A61.out).mono ?_); rintro e w' ⟨rfl, ⟨nd, rfl⟩⟩; (try first | exact ⟨rfl, _, World.drewN_drewN _ _ _⟩ | exact ⟨rfl, _, sqda⟩); (try (obtain ⟨hcz85_0, hcz85_1, hcz85_2, hcz85_3, hfz85_0, hfz85_1, hfz85_2, hfz85_3⟩ := sqc4 BK116)))); try go_wp2_with (first | (go_at_call 98; (with_reducible refine (impl_restMod.calls (wrap64 (a1_1 - a0_0)) a1_0 t133 _ A60.out).mono ?_); rintro e w' ⟨rfl, ⟨nd, rfl⟩⟩; (try first | exact ⟨rfl, _, World.drewN_drewN _ _ _⟩ | exact ⟨rfl, _, sqda⟩)) | (go_at_call 98; (with_reducible refine (impl_restMod.calls (wrap64 (a0_1 - a1_1)) a1_0 t134 _ A61.out).mono ?_); rintro e w' ⟨rfl, ⟨nd, rfl⟩⟩; (try first | exact ⟨rfl, _, World.drewN_drewN _ _ _⟩ | exact ⟨rfl, _, sqda⟩); (try (obtain ⟨hcz85_0, hcz85_1, hcz85_2, hcz85_3, hfz85_0, hfz85_1, hfz85_2, hfz85_3⟩ := sqc4 BK116)))))
    refine bodyPost_ret (results_cell_row rfl _ _ gb116 30 #[.int .i64 (wrap64 (a0_0 + t133)), .int .i64 (wrap64 (a0_1 - t134)), .int .i64 a1_0, .int .i64 a1_1] (0, 0) _ rfl (sqP BK116) Try.underlying30 rfl (by kernel_rfl)) rfl ?_
    exact sqe HB
   have c71b0 : ((wrap64 (a0_0 + t133)) == (wrap64 (a0_1 - t134))) = true := beq_iff_eq.mpr c71
   have c71b1 : ((wrap64 (a0_0 + t133)) != (wrap64 (a0_1 - t134))) = false := bne_eq_false_iff_eq.mpr c71
   clear c71
   replace H := sqbi H
   obtain ⟨⟨t139, t140, t141, t142⟩, A72, H⟩ := H
   try dsimp only at H
   simp only [Option.some.injEq, Prod.mk.injEq] at H
   obtain ⟨rfl, rfl, rfl, rfl⟩ := H
   obtain ⟨hnb73, hnc73, hnb74, hnc74⟩ := sqN2 NB115_114 NB115_116
   obtain ⟨hcz75_0, hcz75_1, hfz75_0, hfz75_1⟩ := sqc2 BK115
   obtain ⟨hnb76, hnc76⟩ := sqN1 NB114_116
   obtain ⟨hcz77_0, hcz77_1, hfz77_0, hfz77_1⟩ := sqc2 BK114
   go_wp2_with (first | (go_at_call 98; (with_reducible refine (impl_restMod.calls (wrap64 (a1_1 - a0_0)) a1_0 t133 _ A60.out).mono ?_); rintro e w' ⟨rfl, ⟨nd, rfl⟩⟩; (try first | exact ⟨rfl, _, World.drewN_drewN _ _ _⟩ | exact ⟨rfl, _, sqda⟩)) | (go_at_call 98; (with_reducible refine (impl_restMod.calls (wrap64 (a0_1 - a1_1)) a1_0 t134 _ A61.out).mono ?_); rintro e w' ⟨rfl, ⟨nd, rfl⟩⟩; (try first | exact ⟨rfl, _, World.drewN_drewN _ _ _⟩ | exact ⟨rfl, _, sqda⟩)) | (go_at_call 97; (with_reducible refine (impl_valOne.calls (wrap64 (a0_0 + t133)) t139 t140 t141 t142 _ A72.out).mono ?_); rintro e w78 ⟨rfl, hb⟩; refine sqM3 BK114 BK115 BK116 hb ?_; clear BK114 BK115 BK116; intro BK114 BK115 BK116; replace HB := sqs HB hb; (try clear hb); obtain ⟨hcz79_0, hcz79_1, hcz79_2, hcz79_3, hfz79_0, hfz79_1, hfz79_2, hfz79_3⟩ := sqc4 BK116))
   repeat (go_quiet (first | (go_at_call 98; (with_reducible refine (impl_restMod.calls (wrap64 (a1_1 - a0_0)) a1_0 t133 _ A60.out).mono ?_); rintro e w' ⟨rfl, ⟨nd, rfl⟩⟩; (try first | exact ⟨rfl, _, World.drewN_drewN _ _ _⟩ | exact ⟨rfl, _, sqda⟩)) | (go_at_call 98; (with_reducible refine (impl_restMod.calls (wrap64 (a0_1 - a1_1)) a1_0 t134 _ A61.out).mono ?_); rintro e w' ⟨rfl, ⟨nd, rfl⟩⟩; (try first | exact ⟨rfl, _, World.drewN_drewN _ _ _⟩ | exact ⟨rfl, _, sqda⟩)) | (go_at_call 97; (with_reducible refine (impl_valOne.calls (wrap64 (a0_0 + t133)) t139 t140 t141 t142 _ A72.out).mono ?_); rintro e w78 ⟨rfl, hb⟩; refine sqM3 BK114 BK115 BK116 hb ?_; clear BK114 BK115 BK116; intro BK114 BK115 BK116; replace HB := sqs HB hb; (try clear hb); obtain ⟨hcz79_0, hcz79_1, hcz79_2, hcz79_3, hfz79_0, hfz79_1, hfz79_2, hfz79_3⟩ := sqc4 BK116)); try go_wp2_with (first | (go_at_call 98; (with_reducible refine (impl_restMod.calls (wrap64 (a1_1 - a0_0)) a1_0 t133 _ A60.out).mono ?_); rintro e w' ⟨rfl, ⟨nd, rfl⟩⟩; (try first | exact ⟨rfl, _, World.drewN_drewN _ _ _⟩ | exact ⟨rfl, _, sqda⟩)) | (go_at_call 98; (with_reducible refine (impl_restMod.calls (wrap64 (a0_1 - a1_1)) a1_0 t134 _ A61.out).mono ?_); rintro e w' ⟨rfl, ⟨nd, rfl⟩⟩; (try first | exact ⟨rfl, _, World.drewN_drewN _ _ _⟩ | exact ⟨rfl, _, sqda⟩)) | (go_at_call 97; (with_reducible refine (impl_valOne.calls (wrap64 (a0_0 + t133)) t139 t140 t141 t142 _ A72.out).mono ?_); rintro e w78 ⟨rfl, hb⟩; refine sqM3 BK114 BK115 BK116 hb ?_; clear BK114 BK115 BK116; intro BK114 BK115 BK116; replace HB := sqs HB hb; (try clear hb); obtain ⟨hcz79_0, hcz79_1, hcz79_2, hcz79_3, hfz79_0, hfz79_1, hfz79_2, hfz79_3⟩ := sqc4 BK116)))
   refine bodyPost_ret (results_cell_row rfl _ _ gb116 30 #[.int .i64 t139, .int .i64 t140, .int .i64 t141, .int .i64 t142] (0, 0) _ rfl (sqP BK116) Try.underlying30 rfl (by kernel_rfl)) rfl ?_
   exact sqe HB

/-! ### impl_Val_span: function 103 -/
set_option maxHeartbeats 8000000 in
set_option maxRecDepth 100000 in
theorem impl_Val_span.calls (a0_0 : Int) (a0_1 : Int) (a0_2 : Int) (a0_3 : Int) (r1 : Int) (r2 : Int) (w : World) (h : impl_Val_span.f a0_0 a0_1 a0_2 a0_3 = some (r1, r2)) :
  Calls Try.prog 103 #[.agg #[.int .i64 a0_0, .int .i64 a0_1, .int .i64 a0_2, .int .i64 a0_3]] w fun e w' => e = .returned (.agg #[.int .i64 r1, .int .i64 r2]) ∧ Below w.heap.size w w' := by
 have hu30 := Try.underlying30
 have hu24 := Try.underlying24
 have HB := Aside0.mk (Below.refl w.heap.size w)
 have H := h
 unfold impl_Val_span.f at H
 clear h
 simp only [Option.some.injEq, Prod.mk.injEq] at H
 obtain ⟨rfl, rfl⟩ := H
 go_enter Try.func103, Try.ntmps103
 go_wp2_with (first | ((with_reducible refine gate_dst (N := 1) rfl ?_); refine sqx 1 #[.int .i64 a0_0, .int .i64 a0_1, .int .i64 a0_2, .int .i64 a0_3] 30 ?_; intro gb143 hg w2 hbox hb; have BK143 := Aside0.mk hbox; have GW143 := sqg HB hg; replace HB := sqs HB hb; clear hb hbox hg) | ((with_reducible refine gate_dst (N := 2) rfl ?_); refine sqx 2 #[.int .i64 0, .int .i64 0] 24 ?_; intro gb144 hg w3 hbox hb; have BK144 := Aside0.mk hbox; have GW144 := sqg HB hg; have NB143_144 := sqn BK143 hg; have NB144_143 := sqm BK143 hg; replace BK143 := sqb BK143 hb; replace HB := sqs HB hb; clear hb hbox hg; obtain ⟨_, _⟩ := sqN1 NB143_144; obtain ⟨_, _, _, _, _, _, _, _⟩ := sqc4 BK143; obtain ⟨_, _, _, _⟩ := sqc2 BK144))
 refine bodyPost_ret (results_cell_row rfl _ _ gb144 24 #[.int .i64 a0_0, .int .i64 a0_1] (0, 0) _ rfl (sqP BK144) Try.underlying24 rfl (by kernel_rfl)) rfl ?_
 exact sqe HB

/-! ### impl_Val_rest: function 104 -/
set_option maxHeartbeats 8000000 in
set_option maxRecDepth 100000 in
theorem impl_Val_rest.calls (a0_0 : Int) (a0_1 : Int) (a0_2 : Int) (a0_3 : Int) (r1 : Int) (r2 : Int) (w : World) (h : impl_Val_rest.f a0_0 a0_1 a0_2 a0_3 = some (r1, r2)) :
  Calls Try.prog 104 #[.agg #[.int .i64 a0_0, .int .i64 a0_1, .int .i64 a0_2, .int .i64 a0_3]] w fun e w' => e = .returned (.agg #[.int .i64 r1, .int .i64 r2]) ∧ Below w.heap.size w w' := by
 have hu30 := Try.underlying30
 have hu26 := Try.underlying26
 have HB := Aside0.mk (Below.refl w.heap.size w)
 have H := h
 unfold impl_Val_rest.f at H
 clear h
 simp only [Option.some.injEq, Prod.mk.injEq] at H
 obtain ⟨rfl, rfl⟩ := H
 go_enter Try.func104, Try.ntmps104
 go_wp2_with (first | ((with_reducible refine gate_dst (N := 1) rfl ?_); refine sqx 1 #[.int .i64 a0_0, .int .i64 a0_1, .int .i64 a0_2, .int .i64 a0_3] 30 ?_; intro gb145 hg w2 hbox hb; have BK145 := Aside0.mk hbox; have GW145 := sqg HB hg; replace HB := sqs HB hb; clear hb hbox hg) | ((with_reducible refine gate_dst (N := 2) rfl ?_); refine sqx 2 #[.int .i64 0, .int .i64 0] 26 ?_; intro gb146 hg w3 hbox hb; have BK146 := Aside0.mk hbox; have GW146 := sqg HB hg; have NB145_146 := sqn BK145 hg; have NB146_145 := sqm BK145 hg; replace BK145 := sqb BK145 hb; replace HB := sqs HB hb; clear hb hbox hg; obtain ⟨_, _⟩ := sqN1 NB145_146; obtain ⟨_, _, _, _, _, _, _, _⟩ := sqc4 BK145; obtain ⟨_, _, _, _⟩ := sqc2 BK146))
 refine bodyPost_ret (results_cell_row rfl _ _ gb146 26 #[.int .i64 a0_2, .int .i64 a0_3] (0, 0) _ rfl (sqP BK146) Try.underlying26 rfl (by kernel_rfl)) rfl ?_
 exact sqe HB

/-! ### impl_ValOk: function 18 -/
def impl_ValOk.T1 : Bool × List (List Nat × List Nat) := (true, [([], []), ([], []), ([1], [1]), ([], []), ([3, 2], [3]), ([2, 4, 4], [2, 4]), ([0, 5], [0, 5]), ([6, 5, 0, 1, 2, 3, 4, 5, 6], [6])])
def impl_ValOk.B1 : List Nat := [0, 0, 2, 0, 14, 30, 63, 127]
theorem impl_ValOk.tab1 : rtab .any (opsOf Try.f18 1) = impl_ValOk.T1 := by kernel_rfl
theorem impl_ValOk.bits1 : waitsOk impl_ValOk.T1.2 impl_ValOk.B1 = true := by kernel_rfl
set_option maxHeartbeats 8000000 in
set_option maxRecDepth 100000 in
theorem impl_ValOk.calls (k : Nat) (a0_0 : Int) (a0_1 : Int) (a0_2 : Int) (a0_3 : Int) (r : Bool) (w : World) (h : impl_ValOk.f k a0_0 a0_1 a0_2 a0_3 = some r) :
  Calls Try.prog 18 #[.agg #[.int .i64 a0_0, .int .i64 a0_1, .int .i64 a0_2, .int .i64 a0_3]] w fun e w' => e = .returned (.bool r) ∧ Below w.heap.size w w' := by
 have hu30 := Try.underlying30
 have HB := Aside0.mk (Below.refl w.heap.size w)
 have H := h
 unfold impl_ValOk.f at H
 clear h
 replace H := sqbi H
 obtain ⟨⟨t148, t149⟩, A2, H⟩ := H
 try dsimp only at H
 replace H := sqbi H
 obtain ⟨⟨t150, t151⟩, A3, H⟩ := H
 try dsimp only at H
 replace H := sqbi H
 obtain ⟨⟨t152, t153, t154, t155⟩, A4, H⟩ := H
 try dsimp only at H
 obtain rfl := Option.some.inj H
 go_enter Try.func18, Try.ntmps18
 try go_wp2_with (first | ((with_reducible refine gate_dst (N := 1) rfl ?_); refine sqx 1 #[.int .i64 a0_0, .int .i64 a0_1, .int .i64 a0_2, .int .i64 a0_3] 30 ?_; intro gb147 hg w5 hbox hb; have BK147 := Aside0.mk hbox; have GW147 := sqg HB hg; replace HB := sqs HB hb; clear hb hbox hg))
 replace BK147 := sqdr BK147
 replace HB := sqdB HB
 refine sqst 8 (fun w' => w'.cell? ⟨gb147, 0, none⟩ = some (.int .i64 a0_0) ∧ w'.cell? ⟨gb147, 1, none⟩ = some (.int .i64 a0_1) ∧ w'.cell? ⟨gb147, 2, none⟩ = some (.int .i64 a0_2) ∧ w'.cell? ⟨gb147, 3, none⟩ = some (.int .i64 a0_3)) sqz (fun hHeld => ?_); refine with_tabW impl_ValOk.tab1 impl_ValOk.bits1 (fun HT_ HW_ => ?_)
 generalize w5.drew = w6 at BK147 HB hHeld ⊢
 refine sqw HT_ HW_ 0 3 hHeld ?_
 refine sqw HT_ HW_ 1 4 hHeld ?_
 refine sqw HT_ HW_ 3 6 hHeld ?_
 refine sqo HT_ 2 5 (fun K hK => ?_)
 refine sqG Try.func103 #[.agg #[.int .i64 a0_0, .int .i64 a0_1, .int .i64 a0_2, .int .i64 a0_3]] ?_
 with_reducible refine (impl_Val_span.calls a0_0 a0_1 a0_2 a0_3 t148 t149 _ A2.out).mono ?_
 rintro e w7 ⟨rfl, hb⟩
 refine ⟨_, rfl, ?_⟩
 replace BK147 := sqb BK147 hb
 replace HB := sqs HB hb
 (try clear hb)
 refine hK.out _ _ sqz (fun hHeld => ?_)
 clear hK K
 refine sqnm ?_
 refine sqo HT_ 4 7 (fun K hK => ?_)
 refine sqG Try.func104 #[.agg #[.int .i64 a0_0, .int .i64 a0_1, .int .i64 a0_2, .int .i64 a0_3]] ?_
 with_reducible refine (impl_Val_rest.calls a0_0 a0_1 a0_2 a0_3 t150 t151 _ A3.out).mono ?_
 rintro e w8 ⟨rfl, hb⟩
 refine ⟨_, rfl, ?_⟩
 replace BK147 := sqb BK147 hb
 replace HB := sqs HB hb
 (try clear hb)
 refine hK.out _ _ sqz (fun hHeld => ?_)
 clear hK K
 refine sqnm ?_
 refine sqo HT_ 5 8 (fun K hK => ?_)
 refine sqG Try.func16 #[.agg #[.int .i64 t148, .int .i64 t149], .agg #[.int .i64 t150, .int .i64 t151]] ?_
 with_reducible refine (impl_ValMake.calls k t148 t149 t150 t151 t152 t153 t154 t155 _ A4.out).mono ?_
 rintro e w9 ⟨rfl, hb⟩
 refine ⟨_, rfl, ?_⟩
 replace BK147 := sqb BK147 hb
 replace HB := sqs HB hb
 (try clear hb)
 refine hK.out _ _ sqz (fun hHeld => ?_)
 clear hK K
 refine sqnm ?_
 refine sqp HT_ 6 9 ?_
 refine sqp HT_ 7 2 ?_
 refine done_ (done_of HT_.out (by kernel_rfl)) ?_
 try go_wp2
 go_ret
 exact sqe HB

/-! ### impl_RestHas: function 68 -/
set_option maxHeartbeats 8000000 in
set_option maxRecDepth 100000 in
theorem impl_RestHas.calls (k : Nat) (a0_0 : Int) (a0_1 : Int) (a1 : Int) (r : Bool) (w : World) (h : impl_RestHas.f k a0_0 a0_1 a1 = some r) :
  Calls Try.prog 68 #[.agg #[.int .i64 a0_0, .int .i64 a0_1], .int .i64 a1] w fun e w' => e = .returned (.bool r) ∧ Below w.heap.size w w' := by
 have hu26 := Try.underlying26
 have HB := Aside0.mk (Below.refl w.heap.size w)
 have H := h
 unfold impl_RestHas.f at H
 clear h
 have HC3 := Aside0.mk H
 clear H
 go_enter Try.func68, Try.ntmps68
 go_upto_region 1 with (first | ((with_reducible refine gate_dst (N := 2) rfl ?_); refine sqx 2 #[.int .i64 a0_0, .int .i64 a0_1] 26 ?_; intro gb156 hg w4 hbox hb; have BK156 := Aside0.mk hbox; have GW156 := sqg HB hg; replace HB := sqs HB hb; clear hb hbox hg))
 repeat (go_quiet (first | ((with_reducible refine gate_dst (N := 2) rfl ?_); refine sqx 2 #[.int .i64 a0_0, .int .i64 a0_1] 26 ?_; intro gb156 hg w4 hbox hb; have BK156 := Aside0.mk hbox; have GW156 := sqg HB hg; replace HB := sqs HB hb; clear hb hbox hg)); go_upto_region 1 with (first | ((with_reducible refine gate_dst (N := 2) rfl ?_); refine sqx 2 #[.int .i64 a0_0, .int .i64 a0_1] 26 ?_; intro gb156 hg w4 hbox hb; have BK156 := Aside0.mk hbox; have GW156 := sqg HB hg; replace HB := sqs HB hb; clear hb hbox hg)))
 (try simp only [Act.put, List.setIfInBounds_toArray, List.set_cons_zero, List.set_cons_succ])
 go_cut [12] (fun v12 wc => ∃ (kq : Nat) (x12_2 : Bool), v12 = .bool x12_2 ∧ Aside0 (impl_RestHas.j0 kq a1 x12_2 a0_0 a0_1 = some r) ∧ Aside0 (kq ≤ k) ∧ Aside0 (wc.heap[gb156]? = some (.cells #[.int .i64 a0_0, .int .i64 a0_1] 26 (0, 0))) ∧ Aside0 (Below w.heap.size w wc))
 case first =>
  have H := HC3.out
  clear HC3
  replace H := sqbi H
  obtain ⟨t157, A5, H⟩ := H
  try dsimp only at H
  rcases sqI (t157 = true) with c6 | c6
  ·replace c6 := Bool.eq_false_iff.mpr c6
   subst c6
   have H1 : (impl_RestHas.j0 k a1 true a0_0 a0_1) = some r := by rw [if_neg (show ¬ (false = true) by decide)] at H; exact H
   clear H
   have H := H1
   clear H1
   have H' := Aside0.mk H
   clear H
   obtain ⟨hcz10_0, hcz10_1, hfz10_0, hfz10_1⟩ := sqc2 BK156
   go_wp2_with (first | (go_at_call 65; (with_reducible refine (impl_RestOk.calls a0_0 a0_1 false _ A5.out).mono ?_); rintro e w11 ⟨rfl, hb⟩; replace BK156 := sqb BK156 hb; replace HB := sqs HB hb; (try clear hb)))
   repeat (go_quiet (first | (go_at_call 65; (with_reducible refine (impl_RestOk.calls a0_0 a0_1 false _ A5.out).mono ?_); rintro e w11 ⟨rfl, hb⟩; replace BK156 := sqb BK156 hb; replace HB := sqs HB hb; (try clear hb))); try go_wp2_with (first | (go_at_call 65; (with_reducible refine (impl_RestOk.calls a0_0 a0_1 false _ A5.out).mono ?_); rintro e w11 ⟨rfl, hb⟩; replace BK156 := sqb BK156 hb; replace HB := sqs HB hb; (try clear hb))))
   go_meet
   case rel => exact ⟨_, (true), (by first | rfl | (simp; done) | (simp [*]; done)), H', ⟨by first | omega | exact Nat.le_refl _⟩, sqk BK156, sqh HB⟩
  subst c6
  have H1 : ((impl_NumOk.f a1).bind fun t158 => (impl_RestHas.j0 k a1 (!t158) a0_0 a0_1)) = some r := by rw [if_pos rfl] at H; exact H
  clear H
  have H := H1
  clear H1
  replace H := sqbi H
  obtain ⟨t158, A7, H⟩ := H
  try dsimp only at H
  have H' := Aside0.mk H
  clear H
  obtain ⟨hcz8_0, hcz8_1, hfz8_0, hfz8_1⟩ := sqc2 BK156
  go_wp2_with (first | (go_at_call 65; (with_reducible refine (impl_RestOk.calls a0_0 a0_1 true _ A5.out).mono ?_); rintro e w9 ⟨rfl, hb⟩; replace BK156 := sqb BK156 hb; replace HB := sqs HB hb; (try clear hb)) | (go_at_call 117; (with_reducible refine (impl_NumOk.calls a1 t158 _ A7.out).mono ?_); rintro e w' ⟨rfl, ⟨nd, rfl⟩⟩; (try first | exact ⟨rfl, _, World.drewN_drewN _ _ _⟩ | exact ⟨rfl, _, sqda⟩)))
  repeat (go_quiet (first | (go_at_call 65; (with_reducible refine (impl_RestOk.calls a0_0 a0_1 true _ A5.out).mono ?_); rintro e w9 ⟨rfl, hb⟩; replace BK156 := sqb BK156 hb; replace HB := sqs HB hb; (try clear hb)) | (go_at_call 117; (with_reducible refine (impl_NumOk.calls a1 t158 _ A7.out).mono ?_); rintro e w' ⟨rfl, ⟨nd, rfl⟩⟩; (try first | exact ⟨rfl, _, World.drewN_drewN _ _ _⟩ | exact ⟨rfl, _, sqda⟩))); try go_wp2_with (first | (go_at_call 65; (with_reducible refine (impl_RestOk.calls a0_0 a0_1 true _ A5.out).mono ?_); rintro e w9 ⟨rfl, hb⟩; replace BK156 := sqb BK156 hb; replace HB := sqs HB hb; (try clear hb)) | (go_at_call 117; (with_reducible refine (impl_NumOk.calls a1 t158 _ A7.out).mono ?_); rintro e w' ⟨rfl, ⟨nd, rfl⟩⟩; (try first | exact ⟨rfl, _, World.drewN_drewN _ _ _⟩ | exact ⟨rfl, _, sqda⟩))))
  go_meet
  case rel => exact ⟨_, (!t158), (by first | rfl | (simp; done) | (simp [*]; done)), H', ⟨by first | omega | exact Nat.le_refl _⟩, sqk BK156, sqh HB⟩
 case rest =>
  clear HC3
  obtain ⟨kq, x12_2, rfl, HA, HJ2, BK156, HB⟩ := hcut
  cases kq with
  | zero => exact absurd HA.out (by simp [impl_RestHas.j0])
  | succ kj2 =>
   have H := HA.out
   clear HA
   simp only [impl_RestHas.j0] at H
   by_cases c12 : x12_2 = true
   ·subst c12
    have H1 : (some false) = some r := by rw [if_pos rfl] at H; exact H
    clear H
    have H := H1
    clear H1
    obtain rfl := Option.some.inj H
    go_wp2
    repeat (go_quiet (fail); try go_wp2)
    go_ret
    exact sqe HB
   replace c12 := Bool.eq_false_iff.mpr c12
   subst c12
   have H1 : (if a0_0 = 0 then (some (a1 == a0_1)) else ((impl_restMod.f a1 a0_0).bind fun t159 => (some (t159 == a0_1)))) = some r := by rw [if_neg (show ¬ (false = true) by decide)] at H; exact H
   clear H
   have H := H1
   clear H1
   replace H := sqj H
   rcases H with ⟨c13, H⟩ | ⟨c13, H⟩
   ·have c13b0 : (a0_0 == 0) = true := beq_iff_eq.mpr c13
    have c13b1 : (a0_0 != 0) = false := bne_eq_false_iff_eq.mpr c13
    clear c13
    obtain rfl := Option.some.inj H
    obtain ⟨hcz14_0, hcz14_1, hfz14_0, hfz14_1⟩ := sqc2 BK156
    go_wp2
    repeat (go_quiet (fail); try go_wp2)
    go_ret
    exact sqe HB
   have c13b0 : (a0_0 == 0) = false := beq_eq_false_iff_ne.mpr c13
   have c13b1 : (a0_0 != 0) = true := bne_iff_ne.mpr c13
   replace H := sqbi H
   obtain ⟨t159, A15, H⟩ := H
   try dsimp only at H
   obtain rfl := Option.some.inj H
   obtain ⟨hcz16_0, hcz16_1, hfz16_0, hfz16_1⟩ := sqc2 BK156
   go_wp2_with (first | (go_at_call 98; (with_reducible refine (impl_restMod.calls a1 a0_0 t159 _ A15.out).mono ?_); rintro e w' ⟨rfl, ⟨nd, rfl⟩⟩; (try first | exact ⟨rfl, _, World.drewN_drewN _ _ _⟩ | exact ⟨rfl, _, sqda⟩)))
   repeat (go_quiet (first | (go_at_call 98; (with_reducible refine (impl_restMod.calls a1 a0_0 t159 _ A15.out).mono ?_); rintro e w' ⟨rfl, ⟨nd, rfl⟩⟩; (try first | exact ⟨rfl, _, World.drewN_drewN _ _ _⟩ | exact ⟨rfl, _, sqda⟩))); try go_wp2_with (first | (go_at_call 98; (with_reducible refine (impl_restMod.calls a1 a0_0 t159 _ A15.out).mono ?_); rintro e w' ⟨rfl, ⟨nd, rfl⟩⟩; (try first | exact ⟨rfl, _, World.drewN_drewN _ _ _⟩ | exact ⟨rfl, _, sqda⟩))))
   go_ret
   exact sqe HB

end Go.Proofs.Ytkekcenlleebeaa.PFnValLattice
