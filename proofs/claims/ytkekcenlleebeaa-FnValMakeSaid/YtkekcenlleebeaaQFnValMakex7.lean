/- Functions of the program as plain Lean functions, and that calls of them come to what these tell. Conditions: those in each law. -/
import Derived.Test.YtkekcenlleebeaaSq
import Derived.Test.YtkekcenlleebeaaDFnValMake
import Derived.Test.YtkekcenlleebeaaQFnValMakex0
import Derived.Test.YtkekcenlleebeaaQFnValMakex6
namespace Go.Proofs.Ytkekcenlleebeaa.PFnValMake
open Go.RowKit Go.Proofs.Ytkekcenlleebeaa.Sq Go.Proofs.YtkekcenlleebeaaW.PrintWords Go.Proofs.YtkekcenlleebeaaW.PrintLast Go.Proofs.YtkekcenlleebeaaW.PrintMore
attribute [local go_sem] max2_int min2_int max_two min_two max_three min_three max_four min_four   -- for this text's walks alone
set_option linter.unusedVariables false
set_option linter.unusedSimpArgs false

/-! ### impl_Range_empty: function 95 -/
set_option maxHeartbeats 8000000 in
set_option maxRecDepth 100000 in
theorem impl_Range_empty.calls (a0_0 : Int) (a0_1 : Int) (r : Bool) (w : World) (h : impl_Range_empty.f a0_0 a0_1 = some r) :
    Calls Try.prog 95 #[.agg #[.int .i64 a0_0, .int .i64 a0_1]] w fun e w' => e = .returned (.bool r) ∧ Below w.heap.size w w' := by
  have hu24 := Try.underlying24
  have HB := Aside0.mk (Below.refl w.heap.size w)
  have H : (some (decide (a0_0 > a0_1))) = some r := h
  clear h
  obtain rfl := Option.some.inj H
  go_enter Try.func95, Try.ntmps95
  go_wp2_with (first | ((with_reducible refine gate_dst (N := 1) rfl ?_); refine sqx 1 #[.int .i64 a0_0, .int .i64 a0_1] 24 ?_; intro gb234 hg w2 hbox hb; have BK234 := Aside0.mk (hbox); have GW234 := sqg HB hg; have GE234 := sqg HB hg; replace HB := sqs HB hb; clear hb hbox hg; obtain ⟨hcz3_0, hcz3_1, hfz3_0, hfz3_1⟩ := sqc2 BK234))
  go_ret
  exact sqe HB

/-! ### impl_valNone: function 96 -/
set_option maxHeartbeats 8000000 in
set_option maxRecDepth 100000 in
theorem impl_valNone.calls  (r1 : Int) (r2 : Int) (r3 : Int) (r4 : Int) (w : World) (h : impl_valNone.f  = some (r1, r2, r3, r4)) :
    Calls Try.prog 96 #[] w fun e w' => e = .returned (.agg #[.int .i64 r1, .int .i64 r2, .int .i64 r3, .int .i64 r4]) ∧ Below w.heap.size w w' := by
  have hu30 := Try.underlying30
  have HB := Aside0.mk (Below.refl w.heap.size w)
  have H : (some (1, 0, 0, 0)) = some (r1, r2, r3, r4) := h
  clear h
  simp only [Option.some.injEq, Prod.mk.injEq] at H
  obtain ⟨rfl, rfl, rfl, rfl⟩ := H
  go_enter Try.func96, Try.ntmps96
  go_wp2_with (first | ((with_reducible refine gate_dst (N := 0) rfl ?_); refine sqx 0 #[.int .i64 0, .int .i64 0, .int .i64 0, .int .i64 0] 30 ?_; intro gb235 hg w1 hbox hb; have BK235 := Aside0.mk (hbox); have GW235 := sqg HB hg; have GE235 := sqg HB hg; replace HB := sqs HB hb; clear hb hbox hg; obtain ⟨hcz2_0, hcz2_1, hcz2_2, hcz2_3, hfz2_0, hfz2_1, hfz2_2, hfz2_3⟩ := sqc4 BK235))
  refine bodyPost_ret (results_cell_row rfl _ _ gb235 30 #[.int .i64 1, .int .i64 0, .int .i64 0, .int .i64 0] (0, 0) _ rfl (by refine sqt ?_; refine blk_put (cs := #[.int .i64 1, .int .i64 0, .int .i64 0, .int .i64 0]) ?_ 3 _ rfl; refine sqt ?_; refine blk_put (cs := #[.int .i64 1, .int .i64 0, .int .i64 0, .int .i64 0]) ?_ 2 _ rfl; refine sqt ?_; refine blk_put (cs := #[.int .i64 1, .int .i64 0, .int .i64 0, .int .i64 0]) ?_ 1 _ rfl; refine sqt ?_; refine blk_put (cs := #[.int .i64 0, .int .i64 0, .int .i64 0, .int .i64 0]) ?_ 0 _ rfl; refine sqt ?_; exact BK235.out) Try.underlying30 rfl (by kernel_rfl)) rfl ?_
  exact sqe HB

/-! ### impl_valOne: function 97 -/
set_option maxHeartbeats 8000000 in
set_option maxRecDepth 100000 in
theorem impl_valOne.calls (a0 : Int) (r1 : Int) (r2 : Int) (r3 : Int) (r4 : Int) (w : World) (h : impl_valOne.f a0 = some (r1, r2, r3, r4)) :
    Calls Try.prog 97 #[.int .i64 a0] w fun e w' => e = .returned (.agg #[.int .i64 r1, .int .i64 r2, .int .i64 r3, .int .i64 r4]) ∧ Below w.heap.size w w' := by
  have hu30 := Try.underlying30
  have HB := Aside0.mk (Below.refl w.heap.size w)
  have H : (some (a0, a0, 0, a0)) = some (r1, r2, r3, r4) := h
  clear h
  simp only [Option.some.injEq, Prod.mk.injEq] at H
  obtain ⟨rfl, rfl, rfl, rfl⟩ := H
  go_enter Try.func97, Try.ntmps97
  go_wp2_with (first | ((with_reducible refine gate_dst (N := 2) rfl ?_); refine sqx 2 #[.int .i64 0, .int .i64 0, .int .i64 0, .int .i64 0] 30 ?_; intro gb236 hg w2 hbox hb; have BK236 := Aside0.mk (hbox); have GW236 := sqg HB hg; have GE236 := sqg HB hg; replace HB := sqs HB hb; clear hb hbox hg; obtain ⟨hcz3_0, hcz3_1, hcz3_2, hcz3_3, hfz3_0, hfz3_1, hfz3_2, hfz3_3⟩ := sqc4 BK236))
  refine bodyPost_ret (results_cell_row rfl _ _ gb236 30 #[.int .i64 a0, .int .i64 a0, .int .i64 0, .int .i64 a0] (0, 0) _ rfl (by refine sqt ?_; refine blk_put (cs := #[.int .i64 a0, .int .i64 a0, .int .i64 0, .int .i64 0]) ?_ 3 _ rfl; refine sqt ?_; refine blk_put (cs := #[.int .i64 a0, .int .i64 a0, .int .i64 0, .int .i64 0]) ?_ 2 _ rfl; refine sqt ?_; refine blk_put (cs := #[.int .i64 a0, .int .i64 0, .int .i64 0, .int .i64 0]) ?_ 1 _ rfl; refine sqt ?_; refine blk_put (cs := #[.int .i64 0, .int .i64 0, .int .i64 0, .int .i64 0]) ?_ 0 _ rfl; refine sqt ?_; exact BK236.out) Try.underlying30 rfl (by kernel_rfl)) rfl ?_
  exact sqe HB

/-! ### impl_restMod: function 98 -/
set_option maxHeartbeats 8000000 in
set_option maxRecDepth 100000 in
theorem impl_restMod.calls (a0 : Int) (a1 : Int) (r : Int) (w : World) (h : impl_restMod.f a0 a1 = some r) :
    Calls Try.prog 98 #[.int .i64 a0, .int .i64 a1] w fun e w' => e = .returned (.int .i64 r) ∧ Drawn0 w w' := by
  have H : (if a1 = 0 then (none) else (if (Int.tmod a0 a1) < 0 then (some (wrap64 ((Int.tmod a0 a1) + a1))) else (some (Int.tmod a0 a1)))) = some r := h
  clear h
  by_cases c3 : a1 = 0
  · rw [if_pos c3] at H
    exact absurd H (by simp)
  · rw [if_neg c3] at H
    have c3b0 : (a1 == 0) = false := beq_eq_false_iff_ne.mpr c3
    have c3b1 : (a1 != 0) = true := bne_iff_ne.mpr c3
    by_cases c4 : (Int.tmod a0 a1) < 0
    · rw [if_pos c4] at H
      have c4b0 : decide ((Int.tmod a0 a1) < 0) = true := decide_eq_true c4
      clear c4
      obtain rfl := Option.some.inj H
      go_enter Try.func98, Try.ntmps98
      go_wp2
      go_ret
      exact ⟨by first | rfl | (simp; done) | (simp [*]; done), by repeat (first | exact Drawn0.refl _ | apply Drawn0.step)⟩
    · rw [if_neg c4] at H
      have c4b0 : decide ((Int.tmod a0 a1) < 0) = false := decide_eq_false c4
      clear c4
      obtain rfl := Option.some.inj H
      go_enter Try.func98, Try.ntmps98
      go_wp2
      go_ret
      exact ⟨by first | rfl | (simp; done) | (simp [*]; done), by repeat (first | exact Drawn0.refl _ | apply Drawn0.step)⟩

/-! ### impl_ValMake: function 16 -/
theorem impl_ValMake.mono_l : ∀ k, (∀ y0 y1 y2 y3 y4, LeO (impl_ValMake.j0 k y0 y1 y2 y3 y4) (impl_ValMake.j0 (k + 1) y0 y1 y2 y3 y4))
  | 0 => fun _ _ _ _ _ r h => by simp [impl_ValMake.j0] at h
  | k + 1 => by
    have ih0 := impl_ValMake.mono_l k
    · intro y0 y1 y2 y3 y4
      unfold impl_ValMake.j0
      repeat' first
      | (with_reducible exact ih0 _ _ _ _ _)
      | (with_reducible exact LeO.refl _)
      | (with_reducible exact LeO.none _)
      | (with_reducible refine LeO.ite ?_ ?_)
      | (with_reducible refine LeO.bind ?_ (fun _ => ?_))
      | exact ih0 _ _ _ _ _
      | exact LeO.none _
      | refine LeO.ite ?_ ?_
      | refine LeO.bind ?_ (fun _ => ?_)
theorem impl_ValMake.mono : ∀ a0 a1 a2 a3 k, LeO (impl_ValMake.f k a0 a1 a2 a3) (impl_ValMake.f (k + 1) a0 a1 a2 a3) := by
  intro a0 a1 a2 a3 k
  have ih0 := impl_ValMake.mono_l k
  unfold impl_ValMake.f
  repeat' first
      | (with_reducible exact ih0 _ _ _ _ _)
      | (with_reducible exact LeO.refl _)
      | (with_reducible exact LeO.none _)
      | (with_reducible refine LeO.ite ?_ ?_)
      | (with_reducible refine LeO.bind ?_ (fun _ => ?_))
      | exact ih0 _ _ _ _ _
      | exact LeO.none _
      | refine LeO.ite ?_ ?_
      | refine LeO.bind ?_ (fun _ => ?_)
set_option maxHeartbeats 8000000 in
set_option maxRecDepth 100000 in
theorem impl_ValMake.calls (k : Nat) (a0_0 : Int) (a0_1 : Int) (a1_0 : Int) (a1_1 : Int) (r1 : Int) (r2 : Int) (r3 : Int) (r4 : Int) (w : World) (h : impl_ValMake.f k a0_0 a0_1 a1_0 a1_1 = some (r1, r2, r3, r4)) :
    Calls Try.prog 16 #[.agg #[.int .i64 a0_0, .int .i64 a0_1], .agg #[.int .i64 a1_0, .int .i64 a1_1]] w fun e w' => e = .returned (.agg #[.int .i64 r1, .int .i64 r2, .int .i64 r3, .int .i64 r4]) ∧ Below w.heap.size w w' := by
  have hu24 := Try.underlying24
  have hu26 := Try.underlying26
  have hu30 := Try.underlying30
  have HB := Aside0.mk (Below.refl w.heap.size w)
  have H : ((impl_RangeOk.f a0_0 a0_1).bind fun t240 => (if t240 = true then ((impl_RestOk.f a1_0 a1_1).bind fun t241 => (if t241 = true then ((impl_Range_empty.f a0_0 a0_1).bind fun t242 => (impl_ValMake.j0 k t242 a0_0 a0_1 a1_0 a1_1)) else (impl_ValMake.j0 k true a0_0 a0_1 a1_0 a1_1))) else (impl_ValMake.j0 k true a0_0 a0_1 a1_0 a1_1))) = some (r1, r2, r3, r4) := h
  clear h
  have HC3 := Aside0.mk H
  clear H
  go_enter Try.func16, Try.ntmps16
  go_upto_region 1 with (first | ((with_reducible refine gate_dst (N := 2) rfl ?_); refine sqx 2 #[.int .i64 a0_0, .int .i64 a0_1] 24 ?_; intro gb237 hg w4 hbox hb; have BK237 := Aside0.mk (hbox); have GW237 := sqg HB hg; have GE237 := sqg HB hg; replace HB := sqs HB hb; clear hb hbox hg) | ((with_reducible refine gate_dst (N := 3) rfl ?_); refine sqx 3 #[.int .i64 a1_0, .int .i64 a1_1] 26 ?_; intro gb238 hg w5 hbox hb; have BK238 := Aside0.mk (hbox); have GW238 := sqg HB hg; have GE238 := sqg HB hg; have NB237_238 := sqn BK237 hg; have NB238_237 := sqm BK237 hg; replace BK237 := sqb BK237 hb; replace HB := sqs HB hb; clear hb hbox hg) | ((with_reducible refine gate_dst (N := 4) rfl ?_); refine sqx 4 #[.int .i64 0, .int .i64 0, .int .i64 0, .int .i64 0] 30 ?_; intro gb239 hg w6 hbox hb; have BK239 := Aside0.mk (hbox); have GW239 := sqg HB hg; have GE239 := sqg HB hg; have NB237_239 := sqn BK237 hg; have NB239_237 := sqm BK237 hg; have NB238_239 := sqn BK238 hg; have NB239_238 := sqm BK238 hg; replace BK237 := sqb BK237 hb; replace BK238 := sqb BK238 hb; replace HB := sqs HB hb; clear hb hbox hg))
  repeat (go_quiet (first | ((with_reducible refine gate_dst (N := 2) rfl ?_); refine sqx 2 #[.int .i64 a0_0, .int .i64 a0_1] 24 ?_; intro gb237 hg w4 hbox hb; have BK237 := Aside0.mk (hbox); have GW237 := sqg HB hg; have GE237 := sqg HB hg; replace HB := sqs HB hb; clear hb hbox hg) | ((with_reducible refine gate_dst (N := 3) rfl ?_); refine sqx 3 #[.int .i64 a1_0, .int .i64 a1_1] 26 ?_; intro gb238 hg w5 hbox hb; have BK238 := Aside0.mk (hbox); have GW238 := sqg HB hg; have GE238 := sqg HB hg; have NB237_238 := sqn BK237 hg; have NB238_237 := sqm BK237 hg; replace BK237 := sqb BK237 hb; replace HB := sqs HB hb; clear hb hbox hg) | ((with_reducible refine gate_dst (N := 4) rfl ?_); refine sqx 4 #[.int .i64 0, .int .i64 0, .int .i64 0, .int .i64 0] 30 ?_; intro gb239 hg w6 hbox hb; have BK239 := Aside0.mk (hbox); have GW239 := sqg HB hg; have GE239 := sqg HB hg; have NB237_239 := sqn BK237 hg; have NB239_237 := sqm BK237 hg; have NB238_239 := sqn BK238 hg; have NB239_238 := sqm BK238 hg; replace BK237 := sqb BK237 hb; replace BK238 := sqb BK238 hb; replace HB := sqs HB hb; clear hb hbox hg)); go_upto_region 1 with (first | ((with_reducible refine gate_dst (N := 2) rfl ?_); refine sqx 2 #[.int .i64 a0_0, .int .i64 a0_1] 24 ?_; intro gb237 hg w4 hbox hb; have BK237 := Aside0.mk (hbox); have GW237 := sqg HB hg; have GE237 := sqg HB hg; replace HB := sqs HB hb; clear hb hbox hg) | ((with_reducible refine gate_dst (N := 3) rfl ?_); refine sqx 3 #[.int .i64 a1_0, .int .i64 a1_1] 26 ?_; intro gb238 hg w5 hbox hb; have BK238 := Aside0.mk (hbox); have GW238 := sqg HB hg; have GE238 := sqg HB hg; have NB237_238 := sqn BK237 hg; have NB238_237 := sqm BK237 hg; replace BK237 := sqb BK237 hb; replace HB := sqs HB hb; clear hb hbox hg) | ((with_reducible refine gate_dst (N := 4) rfl ?_); refine sqx 4 #[.int .i64 0, .int .i64 0, .int .i64 0, .int .i64 0] 30 ?_; intro gb239 hg w6 hbox hb; have BK239 := Aside0.mk (hbox); have GW239 := sqg HB hg; have GE239 := sqg HB hg; have NB237_239 := sqn BK237 hg; have NB239_237 := sqm BK237 hg; have NB238_239 := sqn BK238 hg; have NB239_238 := sqm BK238 hg; replace BK237 := sqb BK237 hb; replace BK238 := sqb BK238 hb; replace HB := sqs HB hb; clear hb hbox hg)))
  (try simp only [Act.put, List.setIfInBounds_toArray, List.set_cons_zero, List.set_cons_succ])
  go_cut [18] (fun v18 wc => ∃ (kq : Nat) (x18_2 : Bool), v18 = .bool x18_2 ∧ Aside0 (impl_ValMake.j0 kq x18_2 a0_0 a0_1 a1_0 a1_1 = some (r1, r2, r3, r4)) ∧ Aside0 (kq ≤ k) ∧ Aside0 (wc.heap[gb237]? = some (.cells #[.int .i64 a0_0, .int .i64 a0_1] 24 (0, 0))) ∧ Aside0 (wc.heap[gb238]? = some (.cells #[.int .i64 a1_0, .int .i64 a1_1] 26 (0, 0))) ∧ Aside0 (wc.heap[gb239]? = some (.cells #[.int .i64 0, .int .i64 0, .int .i64 0, .int .i64 0] 30 (0, 0))) ∧ Aside0 (Below w.heap.size w wc))
  case first =>
    have H := HC3.out
    clear HC3
    replace H := Option.bind_eq_some_iff.mp H
    obtain ⟨t240, A70, H⟩ := H
    replace H : (if t240 = true then ((impl_RestOk.f a1_0 a1_1).bind fun t241 => (if t241 = true then ((impl_Range_empty.f a0_0 a0_1).bind fun t242 => (impl_ValMake.j0 k t242 a0_0 a0_1 a1_0 a1_1)) else (impl_ValMake.j0 k true a0_0 a0_1 a1_0 a1_1))) else (impl_ValMake.j0 k true a0_0 a0_1 a1_0 a1_1)) = some (r1, r2, r3, r4) := H
    have A7 := Aside0.mk A70
    clear A70
    by_cases c8 : t240 = true
    · subst c8
      have H1 : ((impl_RestOk.f a1_0 a1_1).bind fun t241 => (if t241 = true then ((impl_Range_empty.f a0_0 a0_1).bind fun t242 => (impl_ValMake.j0 k t242 a0_0 a0_1 a1_0 a1_1)) else (impl_ValMake.j0 k true a0_0 a0_1 a1_0 a1_1))) = some (r1, r2, r3, r4) := by rw [if_pos rfl] at H; exact H
      clear H
      have H := H1
      clear H1
      replace H := Option.bind_eq_some_iff.mp H
      obtain ⟨t241, A90, H⟩ := H
      replace H : (if t241 = true then ((impl_Range_empty.f a0_0 a0_1).bind fun t242 => (impl_ValMake.j0 k t242 a0_0 a0_1 a1_0 a1_1)) else (impl_ValMake.j0 k true a0_0 a0_1 a1_0 a1_1)) = some (r1, r2, r3, r4) := H
      have A9 := Aside0.mk A90
      clear A90
      by_cases c10 : t241 = true
      · subst c10
        have H1 : ((impl_Range_empty.f a0_0 a0_1).bind fun t242 => (impl_ValMake.j0 k t242 a0_0 a0_1 a1_0 a1_1)) = some (r1, r2, r3, r4) := by rw [if_pos rfl] at H; exact H
        clear H
        have H := H1
        clear H1
        replace H := Option.bind_eq_some_iff.mp H
        obtain ⟨t242, A110, H⟩ := H
        replace H : (impl_ValMake.j0 k t242 a0_0 a0_1 a1_0 a1_1) = some (r1, r2, r3, r4) := H
        have A11 := Aside0.mk A110
        clear A110
        have H' := Aside0.mk H
        clear H
        have hnb12 := NB237_238.out
        have hnc12 := NB238_237.out
        have hnb13 := NB237_239.out
        have hnc13 := NB239_237.out
        obtain ⟨hcz14_0, hcz14_1, hfz14_0, hfz14_1⟩ := sqc2 BK237
        go_wp2_with (first | (go_at_call 76; (with_reducible refine (impl_RangeOk.calls a0_0 a0_1 true _ A7.out).mono ?_); rintro e w15 ⟨rfl, hb⟩; replace BK237 := sqb BK237 hb; replace BK238 := sqb BK238 hb; replace BK239 := sqb BK239 hb; replace HB := sqs HB hb; (try clear hb); have hnb16 := NB238_239.out; have hnc16 := NB239_238.out; obtain ⟨hcz17_0, hcz17_1, hfz17_0, hfz17_1⟩ := sqc2 BK238) | (go_at_call 65; (with_reducible refine (impl_RestOk.calls a1_0 a1_1 true _ A9.out).mono ?_); rintro e w18 ⟨rfl, hb⟩; replace BK237 := sqb BK237 hb; replace BK238 := sqb BK238 hb; replace BK239 := sqb BK239 hb; replace HB := sqs HB hb; (try clear hb); obtain ⟨hcz19_0, hcz19_1, hfz19_0, hfz19_1⟩ := sqc2 BK237) | (go_at_call 95; (with_reducible refine (impl_Range_empty.calls a0_0 a0_1 t242 _ A11.out).mono ?_); rintro e w20 ⟨rfl, hb⟩; replace BK237 := sqb BK237 hb; replace BK238 := sqb BK238 hb; replace BK239 := sqb BK239 hb; replace HB := sqs HB hb; (try clear hb)))
        repeat (go_quiet (first | (go_at_call 76; (with_reducible refine (impl_RangeOk.calls a0_0 a0_1 true _ A7.out).mono ?_); rintro e w15 ⟨rfl, hb⟩; replace BK237 := sqb BK237 hb; replace BK238 := sqb BK238 hb; replace BK239 := sqb BK239 hb; replace HB := sqs HB hb; (try clear hb); have hnb16 := NB238_239.out; have hnc16 := NB239_238.out; obtain ⟨hcz17_0, hcz17_1, hfz17_0, hfz17_1⟩ := sqc2 BK238) | (go_at_call 65; (with_reducible refine (impl_RestOk.calls a1_0 a1_1 true _ A9.out).mono ?_); rintro e w18 ⟨rfl, hb⟩; replace BK237 := sqb BK237 hb; replace BK238 := sqb BK238 hb; replace BK239 := sqb BK239 hb; replace HB := sqs HB hb; (try clear hb); obtain ⟨hcz19_0, hcz19_1, hfz19_0, hfz19_1⟩ := sqc2 BK237) | (go_at_call 95; (with_reducible refine (impl_Range_empty.calls a0_0 a0_1 t242 _ A11.out).mono ?_); rintro e w20 ⟨rfl, hb⟩; replace BK237 := sqb BK237 hb; replace BK238 := sqb BK238 hb; replace BK239 := sqb BK239 hb; replace HB := sqs HB hb; (try clear hb))); try go_wp2_with (first | (go_at_call 76; (with_reducible refine (impl_RangeOk.calls a0_0 a0_1 true _ A7.out).mono ?_); rintro e w15 ⟨rfl, hb⟩; replace BK237 := sqb BK237 hb; replace BK238 := sqb BK238 hb; replace BK239 := sqb BK239 hb; replace HB := sqs HB hb; (try clear hb); have hnb16 := NB238_239.out; have hnc16 := NB239_238.out; obtain ⟨hcz17_0, hcz17_1, hfz17_0, hfz17_1⟩ := sqc2 BK238) | (go_at_call 65; (with_reducible refine (impl_RestOk.calls a1_0 a1_1 true _ A9.out).mono ?_); rintro e w18 ⟨rfl, hb⟩; replace BK237 := sqb BK237 hb; replace BK238 := sqb BK238 hb; replace BK239 := sqb BK239 hb; replace HB := sqs HB hb; (try clear hb); obtain ⟨hcz19_0, hcz19_1, hfz19_0, hfz19_1⟩ := sqc2 BK237) | (go_at_call 95; (with_reducible refine (impl_Range_empty.calls a0_0 a0_1 t242 _ A11.out).mono ?_); rintro e w20 ⟨rfl, hb⟩; replace BK237 := sqb BK237 hb; replace BK238 := sqb BK238 hb; replace BK239 := sqb BK239 hb; replace HB := sqs HB hb; (try clear hb))))
        go_meet
        case rel => exact ⟨_, (t242), (by first | rfl | (simp; done) | (simp [*]; done)), H', ⟨by first | omega | exact Nat.le_refl _⟩, sqk BK237, sqk BK238, sqk BK239, sqh HB⟩
      · replace c10 := Bool.eq_false_iff.mpr c10
        subst c10
        have H1 : (impl_ValMake.j0 k true a0_0 a0_1 a1_0 a1_1) = some (r1, r2, r3, r4) := by rw [if_neg (show ¬ (false = true) by decide)] at H; exact H
        clear H
        have H := H1
        clear H1
        have H' := Aside0.mk H
        clear H
        have hnb21 := NB237_238.out
        have hnc21 := NB238_237.out
        have hnb22 := NB237_239.out
        have hnc22 := NB239_237.out
        obtain ⟨hcz23_0, hcz23_1, hfz23_0, hfz23_1⟩ := sqc2 BK237
        go_wp2_with (first | (go_at_call 76; (with_reducible refine (impl_RangeOk.calls a0_0 a0_1 true _ A7.out).mono ?_); rintro e w24 ⟨rfl, hb⟩; replace BK237 := sqb BK237 hb; replace BK238 := sqb BK238 hb; replace BK239 := sqb BK239 hb; replace HB := sqs HB hb; (try clear hb); have hnb25 := NB238_239.out; have hnc25 := NB239_238.out; obtain ⟨hcz26_0, hcz26_1, hfz26_0, hfz26_1⟩ := sqc2 BK238) | (go_at_call 65; (with_reducible refine (impl_RestOk.calls a1_0 a1_1 false _ A9.out).mono ?_); rintro e w27 ⟨rfl, hb⟩; replace BK237 := sqb BK237 hb; replace BK238 := sqb BK238 hb; replace BK239 := sqb BK239 hb; replace HB := sqs HB hb; (try clear hb)))
        repeat (go_quiet (first | (go_at_call 76; (with_reducible refine (impl_RangeOk.calls a0_0 a0_1 true _ A7.out).mono ?_); rintro e w24 ⟨rfl, hb⟩; replace BK237 := sqb BK237 hb; replace BK238 := sqb BK238 hb; replace BK239 := sqb BK239 hb; replace HB := sqs HB hb; (try clear hb); have hnb25 := NB238_239.out; have hnc25 := NB239_238.out; obtain ⟨hcz26_0, hcz26_1, hfz26_0, hfz26_1⟩ := sqc2 BK238) | (go_at_call 65; (with_reducible refine (impl_RestOk.calls a1_0 a1_1 false _ A9.out).mono ?_); rintro e w27 ⟨rfl, hb⟩; replace BK237 := sqb BK237 hb; replace BK238 := sqb BK238 hb; replace BK239 := sqb BK239 hb; replace HB := sqs HB hb; (try clear hb))); try go_wp2_with (first | (go_at_call 76; (with_reducible refine (impl_RangeOk.calls a0_0 a0_1 true _ A7.out).mono ?_); rintro e w24 ⟨rfl, hb⟩; replace BK237 := sqb BK237 hb; replace BK238 := sqb BK238 hb; replace BK239 := sqb BK239 hb; replace HB := sqs HB hb; (try clear hb); have hnb25 := NB238_239.out; have hnc25 := NB239_238.out; obtain ⟨hcz26_0, hcz26_1, hfz26_0, hfz26_1⟩ := sqc2 BK238) | (go_at_call 65; (with_reducible refine (impl_RestOk.calls a1_0 a1_1 false _ A9.out).mono ?_); rintro e w27 ⟨rfl, hb⟩; replace BK237 := sqb BK237 hb; replace BK238 := sqb BK238 hb; replace BK239 := sqb BK239 hb; replace HB := sqs HB hb; (try clear hb))))
        go_meet
        case rel => exact ⟨_, (true), (by first | rfl | (simp; done) | (simp [*]; done)), H', ⟨by first | omega | exact Nat.le_refl _⟩, sqk BK237, sqk BK238, sqk BK239, sqh HB⟩
    · replace c8 := Bool.eq_false_iff.mpr c8
      subst c8
      have H1 : (impl_ValMake.j0 k true a0_0 a0_1 a1_0 a1_1) = some (r1, r2, r3, r4) := by rw [if_neg (show ¬ (false = true) by decide)] at H; exact H
      clear H
      have H := H1
      clear H1
      have H' := Aside0.mk H
      clear H
      have hnb28 := NB237_238.out
      have hnc28 := NB238_237.out
      have hnb29 := NB237_239.out
      have hnc29 := NB239_237.out
      obtain ⟨hcz30_0, hcz30_1, hfz30_0, hfz30_1⟩ := sqc2 BK237
      go_wp2_with (first | (go_at_call 76; (with_reducible refine (impl_RangeOk.calls a0_0 a0_1 false _ A7.out).mono ?_); rintro e w31 ⟨rfl, hb⟩; replace BK237 := sqb BK237 hb; replace BK238 := sqb BK238 hb; replace BK239 := sqb BK239 hb; replace HB := sqs HB hb; (try clear hb)))
      repeat (go_quiet (first | (go_at_call 76; (with_reducible refine (impl_RangeOk.calls a0_0 a0_1 false _ A7.out).mono ?_); rintro e w31 ⟨rfl, hb⟩; replace BK237 := sqb BK237 hb; replace BK238 := sqb BK238 hb; replace BK239 := sqb BK239 hb; replace HB := sqs HB hb; (try clear hb))); try go_wp2_with (first | (go_at_call 76; (with_reducible refine (impl_RangeOk.calls a0_0 a0_1 false _ A7.out).mono ?_); rintro e w31 ⟨rfl, hb⟩; replace BK237 := sqb BK237 hb; replace BK238 := sqb BK238 hb; replace BK239 := sqb BK239 hb; replace HB := sqs HB hb; (try clear hb))))
      go_meet
      case rel => exact ⟨_, (true), (by first | rfl | (simp; done) | (simp [*]; done)), H', ⟨by first | omega | exact Nat.le_refl _⟩, sqk BK237, sqk BK238, sqk BK239, sqh HB⟩
  case rest =>
    clear HC3
    obtain ⟨kq, x18_2, rfl, HA, HJ2, BK237, BK238, BK239, HB⟩ := hcut
    cases kq with
    | zero => exact absurd HA.out (by simp [impl_ValMake.j0])
    | succ kj2 =>
      have H := HA.out
      clear HA
      simp only [impl_ValMake.j0] at H
      by_cases c32 : x18_2 = true
      · subst c32
        have H1 : ((impl_valNone.f).bind fun bt243 => (some (bt243.1, bt243.2.1, bt243.2.2.1, bt243.2.2.2))) = some (r1, r2, r3, r4) := by rw [if_pos rfl] at H; exact H
        clear H
        have H := H1
        clear H1
        replace H := Option.bind_eq_some_iff.mp H
        obtain ⟨⟨t243, t244, t245, t246⟩, A330, H⟩ := H
        replace H : (some (t243, t244, t245, t246)) = some (r1, r2, r3, r4) := H
        have A33 := Aside0.mk A330
        clear A330
        simp only [Option.some.injEq, Prod.mk.injEq] at H
        obtain ⟨rfl, rfl, rfl, rfl⟩ := H
        go_wp2_with (first | (go_at_call 96; (with_reducible refine (impl_valNone.calls  t243 t244 t245 t246 _ A33.out).mono ?_); rintro e w34 ⟨rfl, hb⟩; replace BK237 := sqb BK237 hb; replace BK238 := sqb BK238 hb; replace BK239 := sqb BK239 hb; replace HB := sqs HB hb; (try clear hb); have hnb35 := NB239_237.out; have hnc35 := NB237_239.out; have hnb36 := NB239_238.out; have hnc36 := NB238_239.out; obtain ⟨hcz37_0, hcz37_1, hcz37_2, hcz37_3, hfz37_0, hfz37_1, hfz37_2, hfz37_3⟩ := sqc4 BK239))
        repeat (go_quiet (first | (go_at_call 96; (with_reducible refine (impl_valNone.calls  t243 t244 t245 t246 _ A33.out).mono ?_); rintro e w34 ⟨rfl, hb⟩; replace BK237 := sqb BK237 hb; replace BK238 := sqb BK238 hb; replace BK239 := sqb BK239 hb; replace HB := sqs HB hb; (try clear hb); have hnb35 := NB239_237.out; have hnc35 := NB237_239.out; have hnb36 := NB239_238.out; have hnc36 := NB238_239.out; obtain ⟨hcz37_0, hcz37_1, hcz37_2, hcz37_3, hfz37_0, hfz37_1, hfz37_2, hfz37_3⟩ := sqc4 BK239)); try go_wp2_with (first | (go_at_call 96; (with_reducible refine (impl_valNone.calls  t243 t244 t245 t246 _ A33.out).mono ?_); rintro e w34 ⟨rfl, hb⟩; replace BK237 := sqb BK237 hb; replace BK238 := sqb BK238 hb; replace BK239 := sqb BK239 hb; replace HB := sqs HB hb; (try clear hb); have hnb35 := NB239_237.out; have hnc35 := NB237_239.out; have hnb36 := NB239_238.out; have hnc36 := NB238_239.out; obtain ⟨hcz37_0, hcz37_1, hcz37_2, hcz37_3, hfz37_0, hfz37_1, hfz37_2, hfz37_3⟩ := sqc4 BK239)))
        refine bodyPost_ret (results_cell_row rfl _ _ gb239 30 #[.int .i64 t243, .int .i64 t244, .int .i64 t245, .int .i64 t246] (0, 0) _ rfl (by refine sqt ?_; refine blk_put (cs := #[.int .i64 t243, .int .i64 t244, .int .i64 t245, .int .i64 0]) ?_ 3 _ rfl; refine sqt ?_; refine blk_put (cs := #[.int .i64 t243, .int .i64 t244, .int .i64 0, .int .i64 0]) ?_ 2 _ rfl; refine sqt ?_; refine blk_put (cs := #[.int .i64 t243, .int .i64 0, .int .i64 0, .int .i64 0]) ?_ 1 _ rfl; refine sqt ?_; refine blk_put (cs := #[.int .i64 0, .int .i64 0, .int .i64 0, .int .i64 0]) ?_ 0 _ rfl; refine sqt ?_; exact BK239.out) Try.underlying30 rfl (by kernel_rfl)) rfl ?_
        exact sqe HB
      · replace c32 := Bool.eq_false_iff.mpr c32
        subst c32
        have H1 : (if a1_0 = 0 then ((impl_RangeHas.f a0_0 a0_1 a1_1).bind fun t247 => (if t247 = true then ((impl_valOne.f a1_1).bind fun bt248 => (some (bt248.1, bt248.2.1, bt248.2.2.1, bt248.2.2.2))) else ((impl_valNone.f).bind fun bt252 => (some (bt252.1, bt252.2.1, bt252.2.2.1, bt252.2.2.2))))) else ((impl_restMod.f (wrap64 (a1_1 - a0_0)) a1_0).bind fun t256 => ((impl_restMod.f (wrap64 (a0_1 - a1_1)) a1_0).bind fun t257 => (if (wrap64 (a0_0 + t256)) > (wrap64 (a0_1 - t257)) then ((impl_valNone.f).bind fun bt258 => (some (bt258.1, bt258.2.1, bt258.2.2.1, bt258.2.2.2))) else (if (wrap64 (a0_0 + t256)) = (wrap64 (a0_1 - t257)) then ((impl_valOne.f (wrap64 (a0_0 + t256))).bind fun bt262 => (some (bt262.1, bt262.2.1, bt262.2.2.1, bt262.2.2.2))) else (some (wrap64 (a0_0 + t256), wrap64 (a0_1 - t257), a1_0, a1_1))))))) = some (r1, r2, r3, r4) := by rw [if_neg (show ¬ (false = true) by decide)] at H; exact H
        clear H
        have H := H1
        clear H1
        by_cases c38 : a1_0 = 0
        · rw [if_pos c38] at H
          have c38b0 : (a1_0 == 0) = true := beq_iff_eq.mpr c38
          have c38b1 : (a1_0 != 0) = false := bne_eq_false_iff_eq.mpr c38
          clear c38
          replace H := Option.bind_eq_some_iff.mp H
          obtain ⟨t247, A390, H⟩ := H
          replace H : (if t247 = true then ((impl_valOne.f a1_1).bind fun bt248 => (some (bt248.1, bt248.2.1, bt248.2.2.1, bt248.2.2.2))) else ((impl_valNone.f).bind fun bt252 => (some (bt252.1, bt252.2.1, bt252.2.2.1, bt252.2.2.2)))) = some (r1, r2, r3, r4) := H
          have A39 := Aside0.mk A390
          clear A390
          by_cases c40 : t247 = true
          · subst c40
            have H1 : ((impl_valOne.f a1_1).bind fun bt248 => (some (bt248.1, bt248.2.1, bt248.2.2.1, bt248.2.2.2))) = some (r1, r2, r3, r4) := by rw [if_pos rfl] at H; exact H
            clear H
            have H := H1
            clear H1
            replace H := Option.bind_eq_some_iff.mp H
            obtain ⟨⟨t248, t249, t250, t251⟩, A410, H⟩ := H
            replace H : (some (t248, t249, t250, t251)) = some (r1, r2, r3, r4) := H
            have A41 := Aside0.mk A410
            clear A410
            simp only [Option.some.injEq, Prod.mk.injEq] at H
            obtain ⟨rfl, rfl, rfl, rfl⟩ := H
            have hnb42 := NB238_237.out
            have hnc42 := NB237_238.out
            have hnb43 := NB238_239.out
            have hnc43 := NB239_238.out
            obtain ⟨hcz44_0, hcz44_1, hfz44_0, hfz44_1⟩ := sqc2 BK238
            have hnb45 := NB237_239.out
            have hnc45 := NB239_237.out
            obtain ⟨hcz46_0, hcz46_1, hfz46_0, hfz46_1⟩ := sqc2 BK237
            go_wp2_with (first | (go_at_call 48; (with_reducible refine (impl_RangeHas.calls a0_0 a0_1 a1_1 true _ A39.out).mono ?_); rintro e w47 ⟨rfl, hb⟩; replace BK237 := sqb BK237 hb; replace BK238 := sqb BK238 hb; replace BK239 := sqb BK239 hb; replace HB := sqs HB hb; (try clear hb); obtain ⟨hcz48_0, hcz48_1, hfz48_0, hfz48_1⟩ := sqc2 BK238) | (go_at_call 97; (with_reducible refine (impl_valOne.calls a1_1 t248 t249 t250 t251 _ A41.out).mono ?_); rintro e w49 ⟨rfl, hb⟩; replace BK237 := sqb BK237 hb; replace BK238 := sqb BK238 hb; replace BK239 := sqb BK239 hb; replace HB := sqs HB hb; (try clear hb); obtain ⟨hcz50_0, hcz50_1, hcz50_2, hcz50_3, hfz50_0, hfz50_1, hfz50_2, hfz50_3⟩ := sqc4 BK239))
            repeat (go_quiet (first | (go_at_call 48; (with_reducible refine (impl_RangeHas.calls a0_0 a0_1 a1_1 true _ A39.out).mono ?_); rintro e w47 ⟨rfl, hb⟩; replace BK237 := sqb BK237 hb; replace BK238 := sqb BK238 hb; replace BK239 := sqb BK239 hb; replace HB := sqs HB hb; (try clear hb); obtain ⟨hcz48_0, hcz48_1, hfz48_0, hfz48_1⟩ := sqc2 BK238) | (go_at_call 97; (with_reducible refine (impl_valOne.calls a1_1 t248 t249 t250 t251 _ A41.out).mono ?_); rintro e w49 ⟨rfl, hb⟩; replace BK237 := sqb BK237 hb; replace BK238 := sqb BK238 hb; replace BK239 := sqb BK239 hb; replace HB := sqs HB hb; (try clear hb); obtain ⟨hcz50_0, hcz50_1, hcz50_2, hcz50_3, hfz50_0, hfz50_1, hfz50_2, hfz50_3⟩ := sqc4 BK239)); try go_wp2_with (first | (go_at_call 48; (with_reducible refine (impl_RangeHas.calls a0_0 a0_1 a1_1 true _ A39.out).mono ?_); rintro e w47 ⟨rfl, hb⟩; replace BK237 := sqb BK237 hb; replace BK238 := sqb BK238 hb; replace BK239 := sqb BK239 hb; replace HB := sqs HB hb; (try clear hb); obtain ⟨hcz48_0, hcz48_1, hfz48_0, hfz48_1⟩ := sqc2 BK238) | (go_at_call 97; (with_reducible refine (impl_valOne.calls a1_1 t248 t249 t250 t251 _ A41.out).mono ?_); rintro e w49 ⟨rfl, hb⟩; replace BK237 := sqb BK237 hb; replace BK238 := sqb BK238 hb; replace BK239 := sqb BK239 hb; replace HB := sqs HB hb; (try clear hb); obtain ⟨hcz50_0, hcz50_1, hcz50_2, hcz50_3, hfz50_0, hfz50_1, hfz50_2, hfz50_3⟩ := sqc4 BK239)))
            refine bodyPost_ret (results_cell_row rfl _ _ gb239 30 #[.int .i64 t248, .int .i64 t249, .int .i64 t250, .int .i64 t251] (0, 0) _ rfl (by refine sqt ?_; refine blk_put (cs := #[.int .i64 t248, .int .i64 t249, .int .i64 t250, .int .i64 0]) ?_ 3 _ rfl; refine sqt ?_; refine blk_put (cs := #[.int .i64 t248, .int .i64 t249, .int .i64 0, .int .i64 0]) ?_ 2 _ rfl; refine sqt ?_; refine blk_put (cs := #[.int .i64 t248, .int .i64 0, .int .i64 0, .int .i64 0]) ?_ 1 _ rfl; refine sqt ?_; refine blk_put (cs := #[.int .i64 0, .int .i64 0, .int .i64 0, .int .i64 0]) ?_ 0 _ rfl; refine sqt ?_; exact BK239.out) Try.underlying30 rfl (by kernel_rfl)) rfl ?_
            exact sqe HB
          · replace c40 := Bool.eq_false_iff.mpr c40
            subst c40
            have H1 : ((impl_valNone.f).bind fun bt252 => (some (bt252.1, bt252.2.1, bt252.2.2.1, bt252.2.2.2))) = some (r1, r2, r3, r4) := by rw [if_neg (show ¬ (false = true) by decide)] at H; exact H
            clear H
            have H := H1
            clear H1
            replace H := Option.bind_eq_some_iff.mp H
            obtain ⟨⟨t252, t253, t254, t255⟩, A510, H⟩ := H
            replace H : (some (t252, t253, t254, t255)) = some (r1, r2, r3, r4) := H
            have A51 := Aside0.mk A510
            clear A510
            simp only [Option.some.injEq, Prod.mk.injEq] at H
            obtain ⟨rfl, rfl, rfl, rfl⟩ := H
            have hnb52 := NB238_237.out
            have hnc52 := NB237_238.out
            have hnb53 := NB238_239.out
            have hnc53 := NB239_238.out
            obtain ⟨hcz54_0, hcz54_1, hfz54_0, hfz54_1⟩ := sqc2 BK238
            have hnb55 := NB237_239.out
            have hnc55 := NB239_237.out
            obtain ⟨hcz56_0, hcz56_1, hfz56_0, hfz56_1⟩ := sqc2 BK237
            go_wp2_with (first | (go_at_call 48; (with_reducible refine (impl_RangeHas.calls a0_0 a0_1 a1_1 false _ A39.out).mono ?_); rintro e w57 ⟨rfl, hb⟩; replace BK237 := sqb BK237 hb; replace BK238 := sqb BK238 hb; replace BK239 := sqb BK239 hb; replace HB := sqs HB hb; (try clear hb)) | (go_at_call 96; (with_reducible refine (impl_valNone.calls  t252 t253 t254 t255 _ A51.out).mono ?_); rintro e w58 ⟨rfl, hb⟩; replace BK237 := sqb BK237 hb; replace BK238 := sqb BK238 hb; replace BK239 := sqb BK239 hb; replace HB := sqs HB hb; (try clear hb); obtain ⟨hcz59_0, hcz59_1, hcz59_2, hcz59_3, hfz59_0, hfz59_1, hfz59_2, hfz59_3⟩ := sqc4 BK239))
            repeat (go_quiet (first | (go_at_call 48; (with_reducible refine (impl_RangeHas.calls a0_0 a0_1 a1_1 false _ A39.out).mono ?_); rintro e w57 ⟨rfl, hb⟩; replace BK237 := sqb BK237 hb; replace BK238 := sqb BK238 hb; replace BK239 := sqb BK239 hb; replace HB := sqs HB hb; (try clear hb)) | (go_at_call 96; (with_reducible refine (impl_valNone.calls  t252 t253 t254 t255 _ A51.out).mono ?_); rintro e w58 ⟨rfl, hb⟩; replace BK237 := sqb BK237 hb; replace BK238 := sqb BK238 hb; replace BK239 := sqb BK239 hb; replace HB := sqs HB hb; (try clear hb); obtain ⟨hcz59_0, hcz59_1, hcz59_2, hcz59_3, hfz59_0, hfz59_1, hfz59_2, hfz59_3⟩ := sqc4 BK239)); try go_wp2_with (first | (go_at_call 48; (with_reducible refine (impl_RangeHas.calls a0_0 a0_1 a1_1 false _ A39.out).mono ?_); rintro e w57 ⟨rfl, hb⟩; replace BK237 := sqb BK237 hb; replace BK238 := sqb BK238 hb; replace BK239 := sqb BK239 hb; replace HB := sqs HB hb; (try clear hb)) | (go_at_call 96; (with_reducible refine (impl_valNone.calls  t252 t253 t254 t255 _ A51.out).mono ?_); rintro e w58 ⟨rfl, hb⟩; replace BK237 := sqb BK237 hb; replace BK238 := sqb BK238 hb; replace BK239 := sqb BK239 hb; replace HB := sqs HB hb; (try clear hb); obtain ⟨hcz59_0, hcz59_1, hcz59_2, hcz59_3, hfz59_0, hfz59_1, hfz59_2, hfz59_3⟩ := sqc4 BK239)))
            refine bodyPost_ret (results_cell_row rfl _ _ gb239 30 #[.int .i64 t252, .int .i64 t253, .int .i64 t254, .int .i64 t255] (0, 0) _ rfl (by refine sqt ?_; refine blk_put (cs := #[.int .i64 t252, .int .i64 t253, .int .i64 t254, .int .i64 0]) ?_ 3 _ rfl; refine sqt ?_; refine blk_put (cs := #[.int .i64 t252, .int .i64 t253, .int .i64 0, .int .i64 0]) ?_ 2 _ rfl; refine sqt ?_; refine blk_put (cs := #[.int .i64 t252, .int .i64 0, .int .i64 0, .int .i64 0]) ?_ 1 _ rfl; refine sqt ?_; refine blk_put (cs := #[.int .i64 0, .int .i64 0, .int .i64 0, .int .i64 0]) ?_ 0 _ rfl; refine sqt ?_; exact BK239.out) Try.underlying30 rfl (by kernel_rfl)) rfl ?_
            exact sqe HB
        · rw [if_neg c38] at H
          have c38b0 : (a1_0 == 0) = false := beq_eq_false_iff_ne.mpr c38
          have c38b1 : (a1_0 != 0) = true := bne_iff_ne.mpr c38
          replace H := Option.bind_eq_some_iff.mp H
          obtain ⟨t256, A600, H⟩ := H
          replace H : ((impl_restMod.f (wrap64 (a0_1 - a1_1)) a1_0).bind fun t257 => (if (wrap64 (a0_0 + t256)) > (wrap64 (a0_1 - t257)) then ((impl_valNone.f).bind fun bt258 => (some (bt258.1, bt258.2.1, bt258.2.2.1, bt258.2.2.2))) else (if (wrap64 (a0_0 + t256)) = (wrap64 (a0_1 - t257)) then ((impl_valOne.f (wrap64 (a0_0 + t256))).bind fun bt262 => (some (bt262.1, bt262.2.1, bt262.2.2.1, bt262.2.2.2))) else (some (wrap64 (a0_0 + t256), wrap64 (a0_1 - t257), a1_0, a1_1))))) = some (r1, r2, r3, r4) := H
          have A60 := Aside0.mk A600
          clear A600
          replace H := Option.bind_eq_some_iff.mp H
          obtain ⟨t257, A610, H⟩ := H
          replace H : (if (wrap64 (a0_0 + t256)) > (wrap64 (a0_1 - t257)) then ((impl_valNone.f).bind fun bt258 => (some (bt258.1, bt258.2.1, bt258.2.2.1, bt258.2.2.2))) else (if (wrap64 (a0_0 + t256)) = (wrap64 (a0_1 - t257)) then ((impl_valOne.f (wrap64 (a0_0 + t256))).bind fun bt262 => (some (bt262.1, bt262.2.1, bt262.2.2.1, bt262.2.2.2))) else (some (wrap64 (a0_0 + t256), wrap64 (a0_1 - t257), a1_0, a1_1)))) = some (r1, r2, r3, r4) := H
          have A61 := Aside0.mk A610
          clear A610
          by_cases c62 : (wrap64 (a0_0 + t256)) > (wrap64 (a0_1 - t257))
          · rw [if_pos c62] at H
            have c62b0 : decide ((wrap64 (a0_1 - t257)) < (wrap64 (a0_0 + t256))) = true := decide_eq_true c62
            clear c62
            replace H := Option.bind_eq_some_iff.mp H
            obtain ⟨⟨t258, t259, t260, t261⟩, A630, H⟩ := H
            replace H : (some (t258, t259, t260, t261)) = some (r1, r2, r3, r4) := H
            have A63 := Aside0.mk A630
            clear A630
            simp only [Option.some.injEq, Prod.mk.injEq] at H
            obtain ⟨rfl, rfl, rfl, rfl⟩ := H
            have hnb64 := NB238_237.out
            have hnc64 := NB237_238.out
            have hnb65 := NB238_239.out
            have hnc65 := NB239_238.out
            obtain ⟨hcz66_0, hcz66_1, hfz66_0, hfz66_1⟩ := sqc2 BK238
            have hnb67 := NB237_239.out
            have hnc67 := NB239_237.out
            obtain ⟨hcz68_0, hcz68_1, hfz68_0, hfz68_1⟩ := sqc2 BK237
            go_wp2_with (first | (go_at_call 98; (with_reducible refine (impl_restMod.calls (wrap64 (a1_1 - a0_0)) a1_0 t256 _ A60.out).mono ?_); rintro e w' ⟨rfl, ⟨nd, rfl⟩⟩; (try first | exact ⟨rfl, _, World.drewN_drewN _ _ _⟩ | exact ⟨rfl, _, Eq.trans (World.drewN_drewN _ _ _) (congrArg (World.drewN _) (Nat.add_assoc _ _ _))⟩)) | (go_at_call 98; (with_reducible refine (impl_restMod.calls (wrap64 (a0_1 - a1_1)) a1_0 t257 _ A61.out).mono ?_); rintro e w' ⟨rfl, ⟨nd, rfl⟩⟩; (try first | exact ⟨rfl, _, World.drewN_drewN _ _ _⟩ | exact ⟨rfl, _, Eq.trans (World.drewN_drewN _ _ _) (congrArg (World.drewN _) (Nat.add_assoc _ _ _))⟩)) | (go_at_call 96; (with_reducible refine (impl_valNone.calls  t258 t259 t260 t261 _ A63.out).mono ?_); rintro e w69 ⟨rfl, hb⟩; replace BK237 := sqb BK237 hb; replace BK238 := sqb BK238 hb; replace BK239 := sqb BK239 hb; replace HB := sqs HB hb; (try clear hb); obtain ⟨hcz70_0, hcz70_1, hcz70_2, hcz70_3, hfz70_0, hfz70_1, hfz70_2, hfz70_3⟩ := sqc4 BK239))
            repeat (go_quiet (first | (go_at_call 98; (with_reducible refine (impl_restMod.calls (wrap64 (a1_1 - a0_0)) a1_0 t256 _ A60.out).mono ?_); rintro e w' ⟨rfl, ⟨nd, rfl⟩⟩; (try first | exact ⟨rfl, _, World.drewN_drewN _ _ _⟩ | exact ⟨rfl, _, Eq.trans (World.drewN_drewN _ _ _) (congrArg (World.drewN _) (Nat.add_assoc _ _ _))⟩)) | (go_at_call 98; (with_reducible refine (impl_restMod.calls (wrap64 (a0_1 - a1_1)) a1_0 t257 _ A61.out).mono ?_); rintro e w' ⟨rfl, ⟨nd, rfl⟩⟩; (try first | exact ⟨rfl, _, World.drewN_drewN _ _ _⟩ | exact ⟨rfl, _, Eq.trans (World.drewN_drewN _ _ _) (congrArg (World.drewN _) (Nat.add_assoc _ _ _))⟩)) | (go_at_call 96; (with_reducible refine (impl_valNone.calls  t258 t259 t260 t261 _ A63.out).mono ?_); rintro e w69 ⟨rfl, hb⟩; replace BK237 := sqb BK237 hb; replace BK238 := sqb BK238 hb; replace BK239 := sqb BK239 hb; replace HB := sqs HB hb; (try clear hb); obtain ⟨hcz70_0, hcz70_1, hcz70_2, hcz70_3, hfz70_0, hfz70_1, hfz70_2, hfz70_3⟩ := sqc4 BK239)); try go_wp2_with (first | (go_at_call 98; (with_reducible refine (impl_restMod.calls (wrap64 (a1_1 - a0_0)) a1_0 t256 _ A60.out).mono ?_); rintro e w' ⟨rfl, ⟨nd, rfl⟩⟩; (try first | exact ⟨rfl, _, World.drewN_drewN _ _ _⟩ | exact ⟨rfl, _, Eq.trans (World.drewN_drewN _ _ _) (congrArg (World.drewN _) (Nat.add_assoc _ _ _))⟩)) | (go_at_call 98; (with_reducible refine (impl_restMod.calls (wrap64 (a0_1 - a1_1)) a1_0 t257 _ A61.out).mono ?_); rintro e w' ⟨rfl, ⟨nd, rfl⟩⟩; (try first | exact ⟨rfl, _, World.drewN_drewN _ _ _⟩ | exact ⟨rfl, _, Eq.trans (World.drewN_drewN _ _ _) (congrArg (World.drewN _) (Nat.add_assoc _ _ _))⟩)) | (go_at_call 96; (with_reducible refine (impl_valNone.calls  t258 t259 t260 t261 _ A63.out).mono ?_); rintro e w69 ⟨rfl, hb⟩; replace BK237 := sqb BK237 hb; replace BK238 := sqb BK238 hb; replace BK239 := sqb BK239 hb; replace HB := sqs HB hb; (try clear hb); obtain ⟨hcz70_0, hcz70_1, hcz70_2, hcz70_3, hfz70_0, hfz70_1, hfz70_2, hfz70_3⟩ := sqc4 BK239)))
            refine bodyPost_ret (results_cell_row rfl _ _ gb239 30 #[.int .i64 t258, .int .i64 t259, .int .i64 t260, .int .i64 t261] (0, 0) _ rfl (by refine sqt ?_; refine blk_put (cs := #[.int .i64 t258, .int .i64 t259, .int .i64 t260, .int .i64 0]) ?_ 3 _ rfl; refine sqt ?_; refine blk_put (cs := #[.int .i64 t258, .int .i64 t259, .int .i64 0, .int .i64 0]) ?_ 2 _ rfl; refine sqt ?_; refine blk_put (cs := #[.int .i64 t258, .int .i64 0, .int .i64 0, .int .i64 0]) ?_ 1 _ rfl; refine sqt ?_; refine blk_put (cs := #[.int .i64 0, .int .i64 0, .int .i64 0, .int .i64 0]) ?_ 0 _ rfl; refine sqt ?_; exact BK239.out) Try.underlying30 rfl (by kernel_rfl)) rfl ?_
            exact sqe HB
          · rw [if_neg c62] at H
            have c62b0 : decide ((wrap64 (a0_1 - t257)) < (wrap64 (a0_0 + t256))) = false := decide_eq_false c62
            clear c62
            by_cases c71 : (wrap64 (a0_0 + t256)) = (wrap64 (a0_1 - t257))
            · rw [if_pos c71] at H
              have c71b0 : ((wrap64 (a0_0 + t256)) == (wrap64 (a0_1 - t257))) = true := beq_iff_eq.mpr c71
              have c71b1 : ((wrap64 (a0_0 + t256)) != (wrap64 (a0_1 - t257))) = false := bne_eq_false_iff_eq.mpr c71
              clear c71
              replace H := Option.bind_eq_some_iff.mp H
              obtain ⟨⟨t262, t263, t264, t265⟩, A720, H⟩ := H
              replace H : (some (t262, t263, t264, t265)) = some (r1, r2, r3, r4) := H
              have A72 := Aside0.mk A720
              clear A720
              simp only [Option.some.injEq, Prod.mk.injEq] at H
              obtain ⟨rfl, rfl, rfl, rfl⟩ := H
              have hnb73 := NB238_237.out
              have hnc73 := NB237_238.out
              have hnb74 := NB238_239.out
              have hnc74 := NB239_238.out
              obtain ⟨hcz75_0, hcz75_1, hfz75_0, hfz75_1⟩ := sqc2 BK238
              have hnb76 := NB237_239.out
              have hnc76 := NB239_237.out
              obtain ⟨hcz77_0, hcz77_1, hfz77_0, hfz77_1⟩ := sqc2 BK237
              go_wp2_with (first | (go_at_call 98; (with_reducible refine (impl_restMod.calls (wrap64 (a1_1 - a0_0)) a1_0 t256 _ A60.out).mono ?_); rintro e w' ⟨rfl, ⟨nd, rfl⟩⟩; (try first | exact ⟨rfl, _, World.drewN_drewN _ _ _⟩ | exact ⟨rfl, _, Eq.trans (World.drewN_drewN _ _ _) (congrArg (World.drewN _) (Nat.add_assoc _ _ _))⟩)) | (go_at_call 98; (with_reducible refine (impl_restMod.calls (wrap64 (a0_1 - a1_1)) a1_0 t257 _ A61.out).mono ?_); rintro e w' ⟨rfl, ⟨nd, rfl⟩⟩; (try first | exact ⟨rfl, _, World.drewN_drewN _ _ _⟩ | exact ⟨rfl, _, Eq.trans (World.drewN_drewN _ _ _) (congrArg (World.drewN _) (Nat.add_assoc _ _ _))⟩)) | (go_at_call 97; (with_reducible refine (impl_valOne.calls (wrap64 (a0_0 + t256)) t262 t263 t264 t265 _ A72.out).mono ?_); rintro e w78 ⟨rfl, hb⟩; replace BK237 := sqb BK237 hb; replace BK238 := sqb BK238 hb; replace BK239 := sqb BK239 hb; replace HB := sqs HB hb; (try clear hb); obtain ⟨hcz79_0, hcz79_1, hcz79_2, hcz79_3, hfz79_0, hfz79_1, hfz79_2, hfz79_3⟩ := sqc4 BK239))
              repeat (go_quiet (first | (go_at_call 98; (with_reducible refine (impl_restMod.calls (wrap64 (a1_1 - a0_0)) a1_0 t256 _ A60.out).mono ?_); rintro e w' ⟨rfl, ⟨nd, rfl⟩⟩; (try first | exact ⟨rfl, _, World.drewN_drewN _ _ _⟩ | exact ⟨rfl, _, Eq.trans (World.drewN_drewN _ _ _) (congrArg (World.drewN _) (Nat.add_assoc _ _ _))⟩)) | (go_at_call 98; (with_reducible refine (impl_restMod.calls (wrap64 (a0_1 - a1_1)) a1_0 t257 _ A61.out).mono ?_); rintro e w' ⟨rfl, ⟨nd, rfl⟩⟩; (try first | exact ⟨rfl, _, World.drewN_drewN _ _ _⟩ | exact ⟨rfl, _, Eq.trans (World.drewN_drewN _ _ _) (congrArg (World.drewN _) (Nat.add_assoc _ _ _))⟩)) | (go_at_call 97; (with_reducible refine (impl_valOne.calls (wrap64 (a0_0 + t256)) t262 t263 t264 t265 _ A72.out).mono ?_); rintro e w78 ⟨rfl, hb⟩; replace BK237 := sqb BK237 hb; replace BK238 := sqb BK238 hb; replace BK239 := sqb BK239 hb; replace HB := sqs HB hb; (try clear hb); obtain ⟨hcz79_0, hcz79_1, hcz79_2, hcz79_3, hfz79_0, hfz79_1, hfz79_2, hfz79_3⟩ := sqc4 BK239)); try go_wp2_with (first | (go_at_call 98; (with_reducible refine (impl_restMod.calls (wrap64 (a1_1 - a0_0)) a1_0 t256 _ A60.out).mono ?_); rintro e w' ⟨rfl, ⟨nd, rfl⟩⟩; (try first | exact ⟨rfl, _, World.drewN_drewN _ _ _⟩ | exact ⟨rfl, _, Eq.trans (World.drewN_drewN _ _ _) (congrArg (World.drewN _) (Nat.add_assoc _ _ _))⟩)) | (go_at_call 98; (with_reducible refine (impl_restMod.calls (wrap64 (a0_1 - a1_1)) a1_0 t257 _ A61.out).mono ?_); rintro e w' ⟨rfl, ⟨nd, rfl⟩⟩; (try first | exact ⟨rfl, _, World.drewN_drewN _ _ _⟩ | exact ⟨rfl, _, Eq.trans (World.drewN_drewN _ _ _) (congrArg (World.drewN _) (Nat.add_assoc _ _ _))⟩)) | (go_at_call 97; (with_reducible refine (impl_valOne.calls (wrap64 (a0_0 + t256)) t262 t263 t264 t265 _ A72.out).mono ?_); rintro e w78 ⟨rfl, hb⟩; replace BK237 := sqb BK237 hb; replace BK238 := sqb BK238 hb; replace BK239 := sqb BK239 hb; replace HB := sqs HB hb; (try clear hb); obtain ⟨hcz79_0, hcz79_1, hcz79_2, hcz79_3, hfz79_0, hfz79_1, hfz79_2, hfz79_3⟩ := sqc4 BK239)))
              refine bodyPost_ret (results_cell_row rfl _ _ gb239 30 #[.int .i64 t262, .int .i64 t263, .int .i64 t264, .int .i64 t265] (0, 0) _ rfl (by refine sqt ?_; refine blk_put (cs := #[.int .i64 t262, .int .i64 t263, .int .i64 t264, .int .i64 0]) ?_ 3 _ rfl; refine sqt ?_; refine blk_put (cs := #[.int .i64 t262, .int .i64 t263, .int .i64 0, .int .i64 0]) ?_ 2 _ rfl; refine sqt ?_; refine blk_put (cs := #[.int .i64 t262, .int .i64 0, .int .i64 0, .int .i64 0]) ?_ 1 _ rfl; refine sqt ?_; refine blk_put (cs := #[.int .i64 0, .int .i64 0, .int .i64 0, .int .i64 0]) ?_ 0 _ rfl; refine sqt ?_; exact BK239.out) Try.underlying30 rfl (by kernel_rfl)) rfl ?_
              exact sqe HB
            · rw [if_neg c71] at H
              have c71b0 : ((wrap64 (a0_0 + t256)) == (wrap64 (a0_1 - t257))) = false := beq_eq_false_iff_ne.mpr c71
              have c71b1 : ((wrap64 (a0_0 + t256)) != (wrap64 (a0_1 - t257))) = true := bne_iff_ne.mpr c71
              simp only [Option.some.injEq, Prod.mk.injEq] at H
              obtain ⟨rfl, rfl, rfl, rfl⟩ := H
              have hnb80 := NB238_237.out
              have hnc80 := NB237_238.out
              have hnb81 := NB238_239.out
              have hnc81 := NB239_238.out
              obtain ⟨hcz82_0, hcz82_1, hfz82_0, hfz82_1⟩ := sqc2 BK238
              have hnb83 := NB237_239.out
              have hnc83 := NB239_237.out
              obtain ⟨hcz84_0, hcz84_1, hfz84_0, hfz84_1⟩ := sqc2 BK237
              obtain ⟨hcz85_0, hcz85_1, hcz85_2, hcz85_3, hfz85_0, hfz85_1, hfz85_2, hfz85_3⟩ := sqc4 BK239
              go_wp2_with (first | (go_at_call 98; (with_reducible refine (impl_restMod.calls (wrap64 (a1_1 - a0_0)) a1_0 t256 _ A60.out).mono ?_); rintro e w' ⟨rfl, ⟨nd, rfl⟩⟩; (try first | exact ⟨rfl, _, World.drewN_drewN _ _ _⟩ | exact ⟨rfl, _, Eq.trans (World.drewN_drewN _ _ _) (congrArg (World.drewN _) (Nat.add_assoc _ _ _))⟩)) | (go_at_call 98; (with_reducible refine (impl_restMod.calls (wrap64 (a0_1 - a1_1)) a1_0 t257 _ A61.out).mono ?_); rintro e w' ⟨rfl, ⟨nd, rfl⟩⟩; (try first | exact ⟨rfl, _, World.drewN_drewN _ _ _⟩ | exact ⟨rfl, _, Eq.trans (World.drewN_drewN _ _ _) (congrArg (World.drewN _) (Nat.add_assoc _ _ _))⟩); (try (obtain ⟨hcz85_0, hcz85_1, hcz85_2, hcz85_3, hfz85_0, hfz85_1, hfz85_2, hfz85_3⟩ := sqc4 BK239))))
              repeat (go_quiet (first | (go_at_call 98; (with_reducible refine (impl_restMod.calls (wrap64 (a1_1 - a0_0)) a1_0 t256 _ A60.out).mono ?_); rintro e w' ⟨rfl, ⟨nd, rfl⟩⟩; (try first | exact ⟨rfl, _, World.drewN_drewN _ _ _⟩ | exact ⟨rfl, _, Eq.trans (World.drewN_drewN _ _ _) (congrArg (World.drewN _) (Nat.add_assoc _ _ _))⟩)) | (go_at_call 98; (with_reducible refine (impl_restMod.calls (wrap64 (a0_1 - a1_1)) a1_0 t257 _ A61.out).mono ?_); rintro e w' ⟨rfl, ⟨nd, rfl⟩⟩; (try first | exact ⟨rfl, _, World.drewN_drewN _ _ _⟩ | exact ⟨rfl, _, Eq.trans (World.drewN_drewN _ _ _) (congrArg (World.drewN _) (Nat.add_assoc _ _ _))⟩); (try (obtain ⟨hcz85_0, hcz85_1, hcz85_2, hcz85_3, hfz85_0, hfz85_1, hfz85_2, hfz85_3⟩ := sqc4 BK239)))); try go_wp2_with (first | (go_at_call 98; (with_reducible refine (impl_restMod.calls (wrap64 (a1_1 - a0_0)) a1_0 t256 _ A60.out).mono ?_); rintro e w' ⟨rfl, ⟨nd, rfl⟩⟩; (try first | exact ⟨rfl, _, World.drewN_drewN _ _ _⟩ | exact ⟨rfl, _, Eq.trans (World.drewN_drewN _ _ _) (congrArg (World.drewN _) (Nat.add_assoc _ _ _))⟩)) | (go_at_call 98; (with_reducible refine (impl_restMod.calls (wrap64 (a0_1 - a1_1)) a1_0 t257 _ A61.out).mono ?_); rintro e w' ⟨rfl, ⟨nd, rfl⟩⟩; (try first | exact ⟨rfl, _, World.drewN_drewN _ _ _⟩ | exact ⟨rfl, _, Eq.trans (World.drewN_drewN _ _ _) (congrArg (World.drewN _) (Nat.add_assoc _ _ _))⟩); (try (obtain ⟨hcz85_0, hcz85_1, hcz85_2, hcz85_3, hfz85_0, hfz85_1, hfz85_2, hfz85_3⟩ := sqc4 BK239)))))
              refine bodyPost_ret (results_cell_row rfl _ _ gb239 30 #[.int .i64 (wrap64 (a0_0 + t256)), .int .i64 (wrap64 (a0_1 - t257)), .int .i64 a1_0, .int .i64 a1_1] (0, 0) _ rfl (by refine sqt ?_; refine blk_put (cs := #[.int .i64 (wrap64 (a0_0 + t256)), .int .i64 (wrap64 (a0_1 - t257)), .int .i64 a1_0, .int .i64 0]) ?_ 3 _ rfl; refine sqt ?_; refine blk_put (cs := #[.int .i64 (wrap64 (a0_0 + t256)), .int .i64 (wrap64 (a0_1 - t257)), .int .i64 0, .int .i64 0]) ?_ 2 _ rfl; refine sqt ?_; refine blk_put (cs := #[.int .i64 (wrap64 (a0_0 + t256)), .int .i64 0, .int .i64 0, .int .i64 0]) ?_ 1 _ rfl; refine sqt ?_; refine blk_put (cs := #[.int .i64 0, .int .i64 0, .int .i64 0, .int .i64 0]) ?_ 0 _ rfl; refine sqt ?_; exact BK239.out) Try.underlying30 rfl (by kernel_rfl)) rfl ?_
              exact sqe HB

/-! ### spec_l1In: function 105 -/
set_option maxHeartbeats 8000000 in
set_option maxRecDepth 100000 in
theorem spec_l1In.calls (a0 : Int) (a1 : Int) (a2 : Int) (r : Bool) (w : World) (h : spec_l1In.f a0 a1 a2 = some r) :
    Calls Try.prog 105 #[.int .i64 a0, .int .i64 a1, .int .i64 a2] w fun e w' => e = .returned (.bool r) ∧ Drawn0 w w' := by
  have H : (if a0 ≥ a1 then (some (decide (a0 ≤ a2))) else (some false)) = some r := h
  clear h
  by_cases c4 : a0 ≥ a1
  · rw [if_pos c4] at H
    have c4b0 : decide (a1 ≤ a0) = true := decide_eq_true c4
    clear c4
    obtain rfl := Option.some.inj H
    go_enter Try.func105, Try.ntmps105
    go_wp2
    go_ret
    exact ⟨by first | rfl | (simp; done) | (simp [*]; done), by repeat (first | exact Drawn0.refl _ | apply Drawn0.step)⟩
  · rw [if_neg c4] at H
    have c4b0 : decide (a1 ≤ a0) = false := decide_eq_false c4
    clear c4
    obtain rfl := Option.some.inj H
    go_enter Try.func105, Try.ntmps105
    go_wp2
    go_ret
    exact ⟨by first | rfl | (simp; done) | (simp [*]; done), by repeat (first | exact Drawn0.refl _ | apply Drawn0.step)⟩

/-! ### spec_NumOk: function 56 -/
set_option maxHeartbeats 8000000 in
set_option maxRecDepth 100000 in
theorem spec_NumOk.calls (a0 : Int) (r : Bool) (w : World) (h : spec_NumOk.f a0 = some r) :
    Calls Try.prog 56 #[.int .i64 a0] w fun e w' => e = .returned (.bool r) ∧ Drawn0 w w' := by
  have H : ((spec_l1In.f a0 (-2147483648) 2147483647).bind fun t266 => (some t266)) = some r := h
  clear h
  replace H := Option.bind_eq_some_iff.mp H
  obtain ⟨t266, A20, H⟩ := H
  replace H : (some t266) = some r := H
  have A2 := Aside0.mk A20
  clear A20
  obtain rfl := Option.some.inj H
  go_enter Try.func56, Try.ntmps56
  go_wp2_with (first | ((with_reducible refine gate_callee (f := 105) rfl ?_); refine sqL (some 4) Try.func105 #[.int .i64 a0, .int .i64 (-2147483648), .int .i64 2147483647] ?_; (with_reducible refine (spec_l1In.calls a0 (-2147483648) 2147483647 t266 _ A2.out).mono ?_); rintro e w' ⟨rfl, ⟨nd, rfl⟩⟩; refine ⟨_, rfl, ?_⟩))
  go_ret
  exact ⟨by first | rfl | (simp; done) | (simp [*]; done), by repeat (first | exact Drawn0.refl _ | apply Drawn0.step)⟩

end Go.Proofs.Ytkekcenlleebeaa.PFnValMake
