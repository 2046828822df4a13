/- Functions of the program as plain Lean functions, and that calls of them come to what these tell. Conditions: those in each law. -/
import Derived.Test.YtkekcenlleebeaaSq
import Derived.Test.YtkekcenlleebeaaDFnValLattice
import Derived.Test.YtkekcenlleebeaaQFnValLatticex0
import Derived.Test.YtkekcenlleebeaaQFnValLatticex4
import Derived.Test.YtkekcenlleebeaaQFnValLatticex5
import Derived.Test.YtkekcenlleebeaaQFnValLatticex21
namespace Go.Proofs.Ytkekcenlleebeaa.PFnValLattice
open Go.RowKit Go.Proofs.Ytkekcenlleebeaa.Sq Go.Proofs.YtkekcenlleebeaaW.PrintWords Go.Proofs.YtkekcenlleebeaaW.PrintLast Go.Proofs.YtkekcenlleebeaaW.PrintMore
attribute [local go_sem] max2_int min2_int max_two min_two max_three min_three max_four min_four   -- for this text's walks alone
set_option linter.unusedVariables false
set_option linter.unusedSimpArgs false

/-! ### impl_RangeMeet: function 127 -/
set_option maxHeartbeats 8000000 in
set_option maxRecDepth 100000 in
theorem impl_RangeMeet.calls (k : Nat) (a0_0 : Int) (a0_1 : Int) (a1_0 : Int) (a1_1 : Int) (r1 : Int) (r2 : Int) (w : World) (h : impl_RangeMeet.f k a0_0 a0_1 a1_0 a1_1 = some (r1, r2)) :
  Calls Try.prog 127 #[.agg #[.int .i64 a0_0, .int .i64 a0_1], .agg #[.int .i64 a1_0, .int .i64 a1_1]] w fun e w' => e = .returned (.agg #[.int .i64 r1, .int .i64 r2]) ∧ Below w.heap.size w w' := by
 have hu24 := Try.underlying24
 have HB := Aside0.mk (Below.refl w.heap.size w)
 have H := h
 unfold impl_RangeMeet.f at H
 clear h
 have HC3 := Aside0.mk H
 clear H
 go_enter Try.func127, Try.ntmps127
 go_upto_region 1 with (first | ((with_reducible refine gate_dst (N := 2) rfl ?_); refine sqx 2 #[.int .i64 a0_0, .int .i64 a0_1] 24 ?_; intro gb564 hg w4 hbox hb; have BK564 := Aside0.mk hbox; have GW564 := sqg HB hg; replace HB := sqs HB hb; clear hb hbox hg) | ((with_reducible refine gate_dst (N := 3) rfl ?_); refine sqx 3 #[.int .i64 a1_0, .int .i64 a1_1] 24 ?_; intro gb565 hg w5 hbox hb; have BK565 := Aside0.mk hbox; have GW565 := sqg HB hg; have NB564_565 := sqn BK564 hg; have NB565_564 := sqm BK564 hg; replace BK564 := sqb BK564 hb; replace HB := sqs HB hb; clear hb hbox hg) | ((with_reducible refine gate_dst (N := 4) rfl ?_); refine sqx 4 #[.int .i64 0, .int .i64 0] 24 ?_; intro gb566 hg w6 hbox hb; have BK566 := Aside0.mk hbox; have GW566 := sqg HB hg; have NB564_566 := sqn BK564 hg; have NB566_564 := sqm BK564 hg; have NB565_566 := sqn BK565 hg; have NB566_565 := sqm BK565 hg; refine sqM2 BK564 BK565 hb ?_; clear BK564 BK565; intro BK564 BK565; replace HB := sqs HB hb; clear hb hbox hg))
 (try simp only [Act.put, List.setIfInBounds_toArray, List.set_cons_zero, List.set_cons_succ])
 go_cut [20] (fun v20 wc => ∃ (kq : Nat) (x20_2 : Bool), v20 = .bool x20_2 ∧ Aside0 (impl_RangeMeet.j0 kq x20_2 a0_0 a0_1 a1_0 a1_1 = some (r1, r2)) ∧ Aside0 (kq ≤ k) ∧ Aside0 (wc.heap[gb564]? = some (.cells #[.int .i64 a0_0, .int .i64 a0_1] 24 (0, 0))) ∧ Aside0 (wc.heap[gb565]? = some (.cells #[.int .i64 a1_0, .int .i64 a1_1] 24 (0, 0))) ∧ Aside0 (wc.heap[gb566]? = some (.cells #[.int .i64 0, .int .i64 0] 24 (0, 0))) ∧ Aside0 (Below w.heap.size w wc))
 case first =>
  have H := HC3.out
  clear HC3
  replace H := sqbi H
  obtain ⟨t567, A7, H⟩ := H
  try dsimp only at H
  rcases sqI (t567 = true) with c8 | c8
  ·replace c8 := Bool.eq_false_iff.mpr c8
   subst c8
   have H1 : (impl_RangeMeet.j0 k true a0_0 a0_1 a1_0 a1_1) = some (r1, r2) := by rw [if_neg (show ¬ (false = true) by decide)] at H; exact H
   clear H
   have H := H1
   clear H1
   have H' := Aside0.mk H
   clear H
   obtain ⟨_, _, _, _⟩ := sqN2 NB564_565 NB564_566
   obtain ⟨_, _, _, _⟩ := sqc2 BK564
   go_wp2_with (first | ((with_reducible refine gate_callee (f := 76) rfl ?_); refine sqL (some 6) Try.func76 #[.agg #[.int .i64 a0_0, .int .i64 a0_1]] ?_; (with_reducible refine (impl_RangeOk.calls a0_0 a0_1 false _ A7.out).mono ?_); rintro e w44 ⟨rfl, hb⟩; refine ⟨_, rfl, ?_⟩; refine sqM3 BK564 BK565 BK566 hb ?_; clear BK564 BK565 BK566; intro BK564 BK565 BK566; replace HB := sqs HB hb; (try clear hb)))
   go_meet
   case rel => exact ⟨_, (true), (by first | rfl | (simp; done) | (simp [*]; done)), H', ⟨by first | omega | exact Nat.le_refl _⟩, sqk BK564, sqk BK565, sqk BK566, sqh HB⟩
  subst c8
  have H1 : ((impl_RangeOk.f a1_0 a1_1).bind fun t568 => (if t568 = true then ((impl_Range_empty.f a0_0 a0_1).bind fun t569 => (if t569 = true then (impl_RangeMeet.j0 k true a0_0 a0_1 a1_0 a1_1) else ((impl_Range_empty.f a1_0 a1_1).bind fun t570 => (impl_RangeMeet.j0 k t570 a0_0 a0_1 a1_0 a1_1)))) else (impl_RangeMeet.j0 k true a0_0 a0_1 a1_0 a1_1))) = some (r1, r2) := by rw [if_pos rfl] at H; exact H
  clear H
  have H := H1
  clear H1
  replace H := sqbi H
  obtain ⟨t568, A9, H⟩ := H
  try dsimp only at H
  rcases sqI (t568 = true) with c10 | c10
  ·replace c10 := Bool.eq_false_iff.mpr c10
   subst c10
   have H1 : (impl_RangeMeet.j0 k true a0_0 a0_1 a1_0 a1_1) = some (r1, r2) := by rw [if_neg (show ¬ (false = true) by decide)] at H; exact H
   clear H
   have H := H1
   clear H1
   have H' := Aside0.mk H
   clear H
   obtain ⟨_, _, _, _⟩ := sqN2 NB564_565 NB564_566
   obtain ⟨_, _, _, _⟩ := sqc2 BK564
   go_wp2_with (first | ((with_reducible refine gate_callee (f := 76) rfl ?_); refine sqL (some 6) Try.func76 #[.agg #[.int .i64 a0_0, .int .i64 a0_1]] ?_; (with_reducible refine (impl_RangeOk.calls a0_0 a0_1 true _ A7.out).mono ?_); rintro e w37 ⟨rfl, hb⟩; refine ⟨_, rfl, ?_⟩; refine sqM3 BK564 BK565 BK566 hb ?_; clear BK564 BK565 BK566; intro BK564 BK565 BK566; replace HB := sqs HB hb; (try clear hb); obtain ⟨_, _⟩ := sqN1 NB565_566; obtain ⟨_, _, _, _⟩ := sqc2 BK565) | (go_at_call 76; (with_reducible refine (impl_RangeOk.calls a1_0 a1_1 false _ A9.out).mono ?_); rintro e w40 ⟨rfl, hb⟩; refine sqM3 BK564 BK565 BK566 hb ?_; clear BK564 BK565 BK566; intro BK564 BK565 BK566; replace HB := sqs HB hb; (try clear hb)))
   go_meet
   case rel => exact ⟨_, (true), (by first | rfl | (simp; done) | (simp [*]; done)), H', ⟨by first | omega | exact Nat.le_refl _⟩, sqk BK564, sqk BK565, sqk BK566, sqh HB⟩
  subst c10
  have H1 : ((impl_Range_empty.f a0_0 a0_1).bind fun t569 => (if t569 = true then (impl_RangeMeet.j0 k true a0_0 a0_1 a1_0 a1_1) else ((impl_Range_empty.f a1_0 a1_1).bind fun t570 => (impl_RangeMeet.j0 k t570 a0_0 a0_1 a1_0 a1_1)))) = some (r1, r2) := by rw [if_pos rfl] at H; exact H
  clear H
  have H := H1
  clear H1
  replace H := sqbi H
  obtain ⟨t569, A11, H⟩ := H
  try dsimp only at H
  by_cases c12 : t569 = true
  ·subst c12
   have H1 : (impl_RangeMeet.j0 k true a0_0 a0_1 a1_0 a1_1) = some (r1, r2) := by rw [if_pos rfl] at H; exact H
   clear H
   have H := H1
   clear H1
   have H' := Aside0.mk H
   clear H
   obtain ⟨_, _, _, _⟩ := sqN2 NB564_565 NB564_566
   obtain ⟨_, _, _, _⟩ := sqc2 BK564
   go_wp2_with (first | ((with_reducible refine gate_callee (f := 76) rfl ?_); refine sqL (some 6) Try.func76 #[.agg #[.int .i64 a0_0, .int .i64 a0_1]] ?_; (with_reducible refine (impl_RangeOk.calls a0_0 a0_1 true _ A7.out).mono ?_); rintro e w16 ⟨rfl, hb⟩; refine ⟨_, rfl, ?_⟩; refine sqM3 BK564 BK565 BK566 hb ?_; clear BK564 BK565 BK566; intro BK564 BK565 BK566; replace HB := sqs HB hb; (try clear hb); obtain ⟨_, _⟩ := sqN1 NB565_566; obtain ⟨_, _, _, _⟩ := sqc2 BK565) | (go_at_call 76; (with_reducible refine (impl_RangeOk.calls a1_0 a1_1 true _ A9.out).mono ?_); rintro e w19 ⟨rfl, hb⟩; refine sqM3 BK564 BK565 BK566 hb ?_; clear BK564 BK565 BK566; intro BK564 BK565 BK566; replace HB := sqs HB hb; (try clear hb); obtain ⟨_, _, _, _⟩ := sqc2 BK564) | (go_at_call 95; (with_reducible refine (impl_Range_empty.calls a0_0 a0_1 true _ A11.out).mono ?_); rintro e w21 ⟨rfl, hb⟩; refine sqM3 BK564 BK565 BK566 hb ?_; clear BK564 BK565 BK566; intro BK564 BK565 BK566; replace HB := sqs HB hb; (try clear hb)))
   go_meet
   case rel => exact ⟨_, (true), (by first | rfl | (simp; done) | (simp [*]; done)), H', ⟨by first | omega | exact Nat.le_refl _⟩, sqk BK564, sqk BK565, sqk BK566, sqh HB⟩
  replace c12 := Bool.eq_false_iff.mpr c12
  subst c12
  have H1 : ((impl_Range_empty.f a1_0 a1_1).bind fun t570 => (impl_RangeMeet.j0 k t570 a0_0 a0_1 a1_0 a1_1)) = some (r1, r2) := by rw [if_neg (show ¬ (false = true) by decide)] at H; exact H
  clear H
  have H := H1
  clear H1
  replace H := sqbi H
  obtain ⟨t570, A22, H⟩ := H
  try dsimp only at H
  have H' := Aside0.mk H
  clear H
  obtain ⟨_, _, _, _⟩ := sqN2 NB564_565 NB564_566
  obtain ⟨_, _, _, _⟩ := sqc2 BK564
  go_wp2_with (first | ((with_reducible refine gate_callee (f := 76) rfl ?_); refine sqL (some 6) Try.func76 #[.agg #[.int .i64 a0_0, .int .i64 a0_1]] ?_; (with_reducible refine (impl_RangeOk.calls a0_0 a0_1 true _ A7.out).mono ?_); rintro e w26 ⟨rfl, hb⟩; refine ⟨_, rfl, ?_⟩; refine sqM3 BK564 BK565 BK566 hb ?_; clear BK564 BK565 BK566; intro BK564 BK565 BK566; replace HB := sqs HB hb; (try clear hb); obtain ⟨_, _⟩ := sqN1 NB565_566; obtain ⟨_, _, _, _⟩ := sqc2 BK565) | (go_at_call 76; (with_reducible refine (impl_RangeOk.calls a1_0 a1_1 true _ A9.out).mono ?_); rintro e w29 ⟨rfl, hb⟩; refine sqM3 BK564 BK565 BK566 hb ?_; clear BK564 BK565 BK566; intro BK564 BK565 BK566; replace HB := sqs HB hb; (try clear hb); obtain ⟨_, _, _, _⟩ := sqc2 BK564) | (go_at_call 95; (with_reducible refine (impl_Range_empty.calls a0_0 a0_1 false _ A11.out).mono ?_); rintro e w31 ⟨rfl, hb⟩; refine sqM3 BK564 BK565 BK566 hb ?_; clear BK564 BK565 BK566; intro BK564 BK565 BK566; replace HB := sqs HB hb; (try clear hb); obtain ⟨_, _, _, _⟩ := sqc2 BK565) | (go_at_call 95; (with_reducible refine (impl_Range_empty.calls a1_0 a1_1 t570 _ A22.out).mono ?_); rintro e w33 ⟨rfl, hb⟩; refine sqM3 BK564 BK565 BK566 hb ?_; clear BK564 BK565 BK566; intro BK564 BK565 BK566; replace HB := sqs HB hb; (try clear hb)))
  go_meet
  case rel => exact ⟨_, (t570), (by first | rfl | (simp; done) | (simp [*]; done)), H', ⟨by first | omega | exact Nat.le_refl _⟩, sqk BK564, sqk BK565, sqk BK566, sqh HB⟩
 case rest =>
  clear HC3
  obtain ⟨kq, x20_2, rfl, HA, HJ2, BK564, BK565, BK566, HB⟩ := hcut
  cases kq with
  | zero => exact absurd HA.out (by simp [impl_RangeMeet.j0])
  | succ kj2 =>
   have H := HA.out
   clear HA
   simp only [impl_RangeMeet.j0] at H
   by_cases c45 : x20_2 = true
   ·subst c45
    have H1 : ((impl_rangeNone.f).bind fun bt571 => (some (bt571.1, bt571.2))) = some (r1, r2) := by rw [if_pos rfl] at H; exact H
    clear H
    have H := H1
    clear H1
    replace H := sqbi H
    obtain ⟨⟨t571, t572⟩, A46, H⟩ := H
    try dsimp only at H
    simp only [Option.some.injEq, Prod.mk.injEq] at H
    obtain ⟨rfl, rfl⟩ := H
    go_wp2_with (first | ((with_reducible refine gate_callee (f := 126) rfl ?_); refine sqL (some 21) Try.func126 #[] ?_; (with_reducible refine (impl_rangeNone.calls  t571 t572 _ A46.out).mono ?_); rintro e w47 ⟨rfl, hb⟩; refine ⟨_, rfl, ?_⟩; refine sqM3 BK564 BK565 BK566 hb ?_; clear BK564 BK565 BK566; intro BK564 BK565 BK566; replace HB := sqs HB hb; (try clear hb); obtain ⟨_, _, _, _⟩ := sqN2 NB566_564 NB566_565; obtain ⟨_, _, _, _⟩ := sqc2 BK566))
    refine bodyPost_ret (results_cell_row rfl _ _ gb566 24 #[.int .i64 t571, .int .i64 t572] (0, 0) _ rfl (sqP BK566) Try.underlying24 rfl (by kernel_rfl)) rfl ?_
    exact sqe HB
   replace c45 := Bool.eq_false_iff.mpr c45
   subst c45
   have H1 : ((impl_rangeFrom.f (mx a0_0 a1_0) (mn a0_1 a1_1)).bind fun bt573 => (some (bt573.1, bt573.2))) = some (r1, r2) := by rw [if_neg (show ¬ (false = true) by decide)] at H; exact H
   clear H
   have H := H1
   clear H1
   obtain ⟨ji51, hji51⟩ : ∃ j_ : Int, (mx a0_0 a1_0) = j_ := ⟨_, rfl⟩
   replace H : ((impl_rangeFrom.f (ji51) (mn a0_1 a1_1)).bind fun bt573 => (some (bt573.1, bt573.2))) = some (r1, r2) := by first | (rw [hji51] at H; exact H) | (simp only [hji51] at H ⊢; exact H)
   have hji51_ : (if a0_0 < a1_0 then a1_0 else a0_0) = ji51 := hji51
   obtain ⟨ji52, hji52⟩ : ∃ j_ : Int, (mn a0_1 a1_1) = j_ := ⟨_, rfl⟩
   replace H : ((impl_rangeFrom.f (ji51) (ji52)).bind fun bt573 => (some (bt573.1, bt573.2))) = some (r1, r2) := by first | (rw [hji52] at H; exact H) | (simp only [hji52] at H ⊢; exact H)
   have hji52_ : (if a1_1 < a0_1 then a1_1 else a0_1) = ji52 := hji52
   replace H := sqbi H
   obtain ⟨⟨t573, t574⟩, A53, H⟩ := H
   try dsimp only at H
   simp only [Option.some.injEq, Prod.mk.injEq] at H
   obtain ⟨rfl, rfl⟩ := H
   obtain ⟨_, _, _, _⟩ := sqN2 NB564_565 NB564_566
   obtain ⟨_, _, _, _⟩ := sqc2 BK564
   obtain ⟨_, _⟩ := sqN1 NB565_566
   obtain ⟨_, _, _, _⟩ := sqc2 BK565
   go_wp2_with (first | ((with_reducible refine gate_callee (f := 129) rfl ?_); refine goesL_ (some 32) rfl rfl Try.func129 (by kernel_rfl) rfl #[.int .i64 ji51, .int .i64 ji52] rfl (by (try simp only [List.map_toArray, List.map_cons, List.map_nil]); first | done | (simp only [hji51, hji52]; rfl) | rfl | (simp only [List.length_drop, List.length_take]; rfl)) ?_; (with_reducible refine (impl_rangeFrom.calls ji51 ji52 t573 t574 _ A53.out).mono ?_); rintro e w59 ⟨rfl, hb⟩; refine ⟨_, rfl, ?_⟩; refine sqM3 BK564 BK565 BK566 hb ?_; clear BK564 BK565 BK566; intro BK564 BK565 BK566; replace HB := sqs HB hb; (try clear hb); obtain ⟨_, _, _, _⟩ := sqc2 BK566))
   refine bodyPost_ret (results_cell_row rfl _ _ gb566 24 #[.int .i64 t573, .int .i64 t574] (0, 0) _ rfl (sqP BK566) Try.underlying24 rfl (by kernel_rfl)) rfl ?_
   exact ⟨by first | rfl | (simp [errW_none, errW_some] <;> rfl) | (simp only [← hji51, ← hji52]; first | rfl | (simp [errW_none, errW_some] <;> rfl)) | (simp [*, errW_none, errW_some] <;> rfl), sqB HB⟩

end Go.Proofs.Ytkekcenlleebeaa.PFnValLattice
