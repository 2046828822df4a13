/- Functions of the program as plain Lean functions, and that calls of them come to what these tell. Conditions: those in each law. -/
import Derived.Test.YtkekcenlleebeaaSq
import Derived.Test.YtkekcenlleebeaaDFnValLattice
import Derived.Test.YtkekcenlleebeaaQFnValLatticex0
import Derived.Test.YtkekcenlleebeaaQFnValLatticex4
import Derived.Test.YtkekcenlleebeaaQFnValLatticex5
import Derived.Test.YtkekcenlleebeaaQFnValLatticex16
import Derived.Test.YtkekcenlleebeaaQFnValLatticex18
namespace Go.Proofs.Ytkekcenlleebeaa.PFnValLattice
open Go.RowKit Go.Proofs.Ytkekcenlleebeaa.Sq Go.Proofs.YtkekcenlleebeaaW.PrintWords Go.Proofs.YtkekcenlleebeaaW.PrintLast Go.Proofs.YtkekcenlleebeaaW.PrintMore
attribute [local go_sem] max2_int min2_int max_two min_two max_three min_three max_four min_four   -- for this text's walks alone
set_option linter.unusedVariables false
set_option linter.unusedSimpArgs false

/-! ### spec_l1Rd_wild: function 192 -/
set_option maxHeartbeats 8000000 in
set_option maxRecDepth 100000 in
theorem spec_l1Rd_wild.calls (k : Nat) (g : Nat) (s0_0 : List Int) (s0_1 : Int) (r1 : Int) (r2 : Int) (w0 w : World) (hI : IsS161 w0 w g s0_0 s0_1) (hB : Below w0.heap.size w0 w) (h : spec_l1Rd_wild.f k s0_0 s0_1 = some (r1, r2)) :
  Calls Try.prog 192 #[.pointer (some ⟨g, 0, none⟩)] w fun e w' => e = .returned (.int .i64 r1) ∧ IsS161 w0 w' g s0_0 r2 ∧ Below w0.heap.size w0 w' ∧ KeepBut w w' g none := by
 have HI0 := Aside0.mk hI
 have HK := Aside0.mk (KeepBut.refl w g none)
 have HL := Aside0.mk hB.size
 clear hI
 have HW0 := Aside0.mk hB.size
 have HB := Aside0.mk hB
 clear hB
 have H := h
 unfold spec_l1Rd_wild.f at H
 clear h
 replace H := sqbi H
 obtain ⟨⟨t460, t461⟩, A2, H⟩ := H
 try dsimp only at H
 replace H := sqj H
 rcases H with ⟨c3, H⟩ | ⟨c3, H⟩
 ·have c3b0 : (t460 == 0) = true := beq_iff_eq.mpr c3
  have c3b1 : (t460 != 0) = false := bne_eq_false_iff_eq.mpr c3
  clear c3
  replace H := sqbi H
  obtain ⟨⟨t462, t463⟩, A4, H⟩ := H
  try dsimp only at H
  simp only [Option.some.injEq, Prod.mk.injEq] at H
  obtain ⟨rfl, rfl⟩ := H
  go_enter Try.func192, Try.ntmps192
  go_wp2_with (first | ((with_reducible refine gate_callee (f := 109) rfl ?_); refine sqL (some 5) Try.func109 #[.pointer (some ⟨g, 0, none⟩), .int .i64 12] ?_; (with_reducible refine (spec_l1Rd_pick.calls k g s0_0 s0_1 12 t460 t461 w0 _ ?side1 ?side2 A2.out).mono ?_); (case side1 => exact IsS161.mv HI0); (case side2 => exact sqB2 HB (IsS161.ge HI0.out)); rintro e w5 ⟨rfl, hi, hb, hk⟩; refine ⟨_, rfl, ?_⟩; replace HK := Aside0.mk (KeepBut.trans (sqK HK) hk (.inl rfl)); replace HB := Aside0.mk (hb); replace HI0 := Aside0.mk (hi); (try clear hb); (try clear hb2); (try clear hk); (try clear hi)) | ((with_reducible refine gate_callee (f := 109) rfl ?_); refine sqL (some 9) Try.func109 #[.pointer (some ⟨g, 0, none⟩), .int .i64 3] ?_; (with_reducible refine (spec_l1Rd_pick.calls k g s0_0 t461 3 t462 t463 w0 _ ?side1 ?side2 A4.out).mono ?_); (case side1 => exact IsS161.mv HI0); (case side2 => exact sqB2 HB (IsS161.ge HI0.out)); rintro e w6 ⟨rfl, hi, hb, hk⟩; refine ⟨_, rfl, ?_⟩; replace HK := Aside0.mk (KeepBut.trans (sqK HK) hk (.inl rfl)); replace HB := Aside0.mk (hb); replace HI0 := Aside0.mk (hi); (try clear hb); (try clear hb2); (try clear hk); (try clear hi)))
  go_ret
  exact ⟨by first | rfl | (simp [errW_none, errW_some] <;> rfl) | (simp [*, errW_none, errW_some] <;> rfl), by repeat (first | (with_reducible first | exact HI0.out | apply IsS161.alloc | apply IsS161.drewN | apply IsS161.drew | apply IsS161.set_1) | exact HI0.out), by repeat (first | (with_reducible first | exact HB.out | apply below_alloc | apply pw_below_drewN | apply below_drew1 | refine below_set ?_ (IsS161.ge HI0.out)) | exact HB.out), sqK HK⟩
 have c3b0 : (t460 == 0) = false := beq_eq_false_iff_ne.mpr c3
 have c3b1 : (t460 != 0) = true := bne_iff_ne.mpr c3
 replace H := sqj H
 rcases H with ⟨c7, H⟩ | ⟨c7, H⟩
 ·have c7b0 : (t460 == 1) = true := beq_iff_eq.mpr c7
  have c7b1 : (t460 != 1) = false := bne_eq_false_iff_eq.mpr c7
  clear c7
  replace H := sqbi H
  obtain ⟨⟨t464, t465⟩, A8, H⟩ := H
  try dsimp only at H
  simp only [Option.some.injEq, Prod.mk.injEq] at H
  obtain ⟨rfl, rfl⟩ := H
  go_enter Try.func192, Try.ntmps192
  go_wp2_with (first | ((with_reducible refine gate_callee (f := 109) rfl ?_); refine sqL (some 5) Try.func109 #[.pointer (some ⟨g, 0, none⟩), .int .i64 12] ?_; (with_reducible refine (spec_l1Rd_pick.calls k g s0_0 s0_1 12 t460 t461 w0 _ ?side1 ?side2 A2.out).mono ?_); (case side1 => exact IsS161.mv HI0); (case side2 => exact sqB2 HB (IsS161.ge HI0.out)); rintro e w9 ⟨rfl, hi, hb, hk⟩; refine ⟨_, rfl, ?_⟩; replace HK := Aside0.mk (KeepBut.trans (sqK HK) hk (.inl rfl)); replace HB := Aside0.mk (hb); replace HI0 := Aside0.mk (hi); (try clear hb); (try clear hb2); (try clear hk); (try clear hi)) | ((with_reducible refine gate_callee (f := 109) rfl ?_); refine sqL (some 14) Try.func109 #[.pointer (some ⟨g, 0, none⟩), .int .i64 3] ?_; (with_reducible refine (spec_l1Rd_pick.calls k g s0_0 t461 3 t464 t465 w0 _ ?side1 ?side2 A8.out).mono ?_); (case side1 => exact IsS161.mv HI0); (case side2 => exact sqB2 HB (IsS161.ge HI0.out)); rintro e w10 ⟨rfl, hi, hb, hk⟩; refine ⟨_, rfl, ?_⟩; replace HK := Aside0.mk (KeepBut.trans (sqK HK) hk (.inl rfl)); replace HB := Aside0.mk (hb); replace HI0 := Aside0.mk (hi); (try clear hb); (try clear hb2); (try clear hk); (try clear hi)))
  go_ret
  exact ⟨by first | rfl | (simp [errW_none, errW_some] <;> rfl) | (simp [*, errW_none, errW_some] <;> rfl), by repeat (first | (with_reducible first | exact HI0.out | apply IsS161.alloc | apply IsS161.drewN | apply IsS161.drew | apply IsS161.set_1) | exact HI0.out), by repeat (first | (with_reducible first | exact HB.out | apply below_alloc | apply pw_below_drewN | apply below_drew1 | refine below_set ?_ (IsS161.ge HI0.out)) | exact HB.out), sqK HK⟩
 have c7b0 : (t460 == 1) = false := beq_eq_false_iff_ne.mpr c7
 have c7b1 : (t460 != 1) = true := bne_iff_ne.mpr c7
 replace H := sqj H
 rcases H with ⟨c11, H⟩ | ⟨c11, H⟩
 ·have c11b0 : (t460 == 2) = true := beq_iff_eq.mpr c11
  have c11b1 : (t460 != 2) = false := bne_eq_false_iff_eq.mpr c11
  clear c11
  replace H := sqbi H
  obtain ⟨⟨t466, t467⟩, A12, H⟩ := H
  try dsimp only at H
  simp only [Option.some.injEq, Prod.mk.injEq] at H
  obtain ⟨rfl, rfl⟩ := H
  go_enter Try.func192, Try.ntmps192
  go_wp2_with (first | ((with_reducible refine gate_callee (f := 109) rfl ?_); refine sqL (some 5) Try.func109 #[.pointer (some ⟨g, 0, none⟩), .int .i64 12] ?_; (with_reducible refine (spec_l1Rd_pick.calls k g s0_0 s0_1 12 t460 t461 w0 _ ?side1 ?side2 A2.out).mono ?_); (case side1 => exact IsS161.mv HI0); (case side2 => exact sqB2 HB (IsS161.ge HI0.out)); rintro e w13 ⟨rfl, hi, hb, hk⟩; refine ⟨_, rfl, ?_⟩; replace HK := Aside0.mk (KeepBut.trans (sqK HK) hk (.inl rfl)); replace HB := Aside0.mk (hb); replace HI0 := Aside0.mk (hi); (try clear hb); (try clear hb2); (try clear hk); (try clear hi)) | ((with_reducible refine gate_callee (f := 109) rfl ?_); refine sqL (some 19) Try.func109 #[.pointer (some ⟨g, 0, none⟩), .int .i64 2] ?_; (with_reducible refine (spec_l1Rd_pick.calls k g s0_0 t461 2 t466 t467 w0 _ ?side1 ?side2 A12.out).mono ?_); (case side1 => exact IsS161.mv HI0); (case side2 => exact sqB2 HB (IsS161.ge HI0.out)); rintro e w14 ⟨rfl, hi, hb, hk⟩; refine ⟨_, rfl, ?_⟩; replace HK := Aside0.mk (KeepBut.trans (sqK HK) hk (.inl rfl)); replace HB := Aside0.mk (hb); replace HI0 := Aside0.mk (hi); (try clear hb); (try clear hb2); (try clear hk); (try clear hi)))
  go_ret
  exact ⟨by first | rfl | (simp [errW_none, errW_some] <;> rfl) | (simp [*, errW_none, errW_some] <;> rfl), by repeat (first | (with_reducible first | exact HI0.out | apply IsS161.alloc | apply IsS161.drewN | apply IsS161.drew | apply IsS161.set_1) | exact HI0.out), by repeat (first | (with_reducible first | exact HB.out | apply below_alloc | apply pw_below_drewN | apply below_drew1 | refine below_set ?_ (IsS161.ge HI0.out)) | exact HB.out), sqK HK⟩
 have c11b0 : (t460 == 2) = false := beq_eq_false_iff_ne.mpr c11
 have c11b1 : (t460 != 2) = true := bne_iff_ne.mpr c11
 replace H := sqi H
 rcases H with ⟨c15, H⟩ | ⟨c15, H⟩
 ·have c15b0 : (t460 == 3) = false := beq_eq_false_iff_ne.mpr c15
  have c15b1 : (t460 != 3) = true := bne_iff_ne.mpr c15
  replace H := sqbi H
  obtain ⟨⟨t470, t471⟩, A19, H⟩ := H
  try dsimp only at H
  simp only [Option.some.injEq, Prod.mk.injEq] at H
  obtain ⟨rfl, rfl⟩ := H
  go_enter Try.func192, Try.ntmps192
  go_wp2_with (first | ((with_reducible refine gate_callee (f := 109) rfl ?_); refine sqL (some 5) Try.func109 #[.pointer (some ⟨g, 0, none⟩), .int .i64 12] ?_; (with_reducible refine (spec_l1Rd_pick.calls k g s0_0 s0_1 12 t460 t461 w0 _ ?side1 ?side2 A2.out).mono ?_); (case side1 => exact IsS161.mv HI0); (case side2 => exact sqB2 HB (IsS161.ge HI0.out)); rintro e w20 ⟨rfl, hi, hb, hk⟩; refine ⟨_, rfl, ?_⟩; replace HK := Aside0.mk (KeepBut.trans (sqK HK) hk (.inl rfl)); replace HB := Aside0.mk (hb); replace HI0 := Aside0.mk (hi); (try clear hb); (try clear hb2); (try clear hk); (try clear hi)) | ((with_reducible refine gate_callee (f := 195) rfl ?_); refine sqL (some 27) Try.func195 #[.pointer (some ⟨g, 0, none⟩)] ?_; (with_reducible refine (spec_l1Rd_num.calls k g s0_0 t461 t470 t471 w0 _ ?side1 ?side2 A19.out).mono ?_); (case side1 => exact IsS161.mv HI0); (case side2 => exact sqB2 HB (IsS161.ge HI0.out)); rintro e w21 ⟨rfl, hi, hb, hk⟩; refine ⟨_, rfl, ?_⟩; replace HK := Aside0.mk (KeepBut.trans (sqK HK) hk (.inl rfl)); replace HB := Aside0.mk (hb); replace HI0 := Aside0.mk (hi); (try clear hb); (try clear hb2); (try clear hk); (try clear hi)))
  go_ret
  exact ⟨by first | rfl | (simp [errW_none, errW_some] <;> rfl) | (simp [*, errW_none, errW_some] <;> rfl), by repeat (first | (with_reducible first | exact HI0.out | apply IsS161.alloc | apply IsS161.drewN | apply IsS161.drew | apply IsS161.set_1) | exact HI0.out), by repeat (first | (with_reducible first | exact HB.out | apply below_alloc | apply pw_below_drewN | apply below_drew1 | refine below_set ?_ (IsS161.ge HI0.out)) | exact HB.out), sqK HK⟩
 have c15b0 : (t460 == 3) = true := beq_iff_eq.mpr c15
 have c15b1 : (t460 != 3) = false := bne_eq_false_iff_eq.mpr c15
 clear c15
 replace H := sqbi H
 obtain ⟨⟨t468, t469⟩, A16, H⟩ := H
 try dsimp only at H
 simp only [Option.some.injEq, Prod.mk.injEq] at H
 obtain ⟨rfl, rfl⟩ := H
 go_enter Try.func192, Try.ntmps192
 go_wp2_with (first | ((with_reducible refine gate_callee (f := 109) rfl ?_); refine sqL (some 5) Try.func109 #[.pointer (some ⟨g, 0, none⟩), .int .i64 12] ?_; (with_reducible refine (spec_l1Rd_pick.calls k g s0_0 s0_1 12 t460 t461 w0 _ ?side1 ?side2 A2.out).mono ?_); (case side1 => exact IsS161.mv HI0); (case side2 => exact sqB2 HB (IsS161.ge HI0.out)); rintro e w17 ⟨rfl, hi, hb, hk⟩; refine ⟨_, rfl, ?_⟩; replace HK := Aside0.mk (KeepBut.trans (sqK HK) hk (.inl rfl)); replace HB := Aside0.mk (hb); replace HI0 := Aside0.mk (hi); (try clear hb); (try clear hb2); (try clear hk); (try clear hi)) | ((with_reducible refine gate_callee (f := 109) rfl ?_); refine sqL (some 24) Try.func109 #[.pointer (some ⟨g, 0, none⟩), .int .i64 2] ?_; (with_reducible refine (spec_l1Rd_pick.calls k g s0_0 t461 2 t468 t469 w0 _ ?side1 ?side2 A16.out).mono ?_); (case side1 => exact IsS161.mv HI0); (case side2 => exact sqB2 HB (IsS161.ge HI0.out)); rintro e w18 ⟨rfl, hi, hb, hk⟩; refine ⟨_, rfl, ?_⟩; replace HK := Aside0.mk (KeepBut.trans (sqK HK) hk (.inl rfl)); replace HB := Aside0.mk (hb); replace HI0 := Aside0.mk (hi); (try clear hb); (try clear hb2); (try clear hk); (try clear hi)))
 go_ret
 exact ⟨by first | rfl | (simp [errW_none, errW_some] <;> rfl) | (simp [*, errW_none, errW_some] <;> rfl), by repeat (first | (with_reducible first | exact HI0.out | apply IsS161.alloc | apply IsS161.drewN | apply IsS161.drew | apply IsS161.set_1) | exact HI0.out), by repeat (first | (with_reducible first | exact HB.out | apply below_alloc | apply pw_below_drewN | apply below_drew1 | refine below_set ?_ (IsS161.ge HI0.out)) | exact HB.out), sqK HK⟩

/-! ### spec_l8Steps: function 183 -/
set_option maxHeartbeats 8000000 in
set_option maxRecDepth 100000 in
theorem spec_l8Steps.calls (k : Nat) (g : Nat) (s0_0 : List Int) (s0_1 : Int) (r1 : List Int) (r2 : Int) (w0 w : World) (hI : IsS161 w0 w g s0_0 s0_1) (hB : Below w0.heap.size w0 w) (h : spec_l8Steps.f k s0_0 s0_1 = some (r1, r2)) :
  Calls Try.prog 183 #[.pointer (some ⟨g, 0, none⟩)] w fun e w' => ∃ v0_ : Value, e = .returned (v0_) ∧ Kd.R (Kd.int .i64) 3 w' w.heap.size (fun _ => True) v0_ r1 ∧ IsS161 w0 w' g s0_0 r2 ∧ Below w0.heap.size w0 w' ∧ KeepBut w w' g none := by
 have HI0 := Aside0.mk hI
 have HK := Aside0.mk (KeepBut.refl w g none)
 have HL := Aside0.mk hB.size
 clear hI
 have HW0 := Aside0.mk hB.size
 have HB := Aside0.mk hB
 clear hB
 have H := h
 unfold spec_l8Steps.f at H
 clear h
 obtain ⟨y472, hy472⟩ : ∃ y_ : List Int, y_ = (([] : List Int)) := ⟨_, rfl⟩
 replace H : ((spec_l1Rd_pick.f k s0_0 s0_1 6).bind fun bt475 => (spec_l8Steps.l0 k y472 bt475.1 s0_0 bt475.2)) = some (r1, r2) := by first | (rw [hy472]; with_reducible exact H) | (have H2_ := (Option.bind_some _ _).symm.trans H; rw [hy472]; with_reducible exact H2_) | (have H2_ := (Option.bind_some _ _).symm.trans H; with_reducible exact H2_) | with_reducible exact H | (rw [hy472]; exact H) | exact H
 have Ny472 := Aside0.mk hy472
 clear hy472
 replace H := sqbi H
 obtain ⟨⟨t475, t476⟩, A2, H⟩ := H
 try dsimp only at H
 have H' := Aside0.mk H
 clear H
 go_enter Try.func183, Try.ntmps183
 go_wp2_with (first | ((with_reducible refine gate_dst (N := 5) rfl ?_); refine Kd.R_lit (Kd.int .i64) _ 3 ?hg (N := 5) ?hd (xs := ([] : List Int)) (inner := []) (ok := fun _ => True) (okp := fun _ => True) ?hr ?hp (fun _ hk => hk) trivial (Below.refl _ _) (Nat.le_refl _) (by simp) ?_; (case hd => rfl); (case hg => rfl); (case hr => first | (go_simp; done) | (go_simp; rfl)); (case hp => exact (Reps.none _ _)); intro v473 w3 ho4 hb hg_ hnew_; clear hg_ hnew_; (first | rw [← Ny472.out] at ho4 | (simp only [Int.reduceToNat] at ho4; rw [← Ny472.out] at ho4)); have HO474 := Aside0.mk (Kd.R_lower ho4 (keep_size (w := w) (g := g) (row := none) (sqK HK))); replace HK := Aside0.mk (KeepBut.trans (sqK HK) (KeepBut.of_below hb g none) (.inl rfl)); replace HB := Aside0.mk (below_step (sqB2 HB (IsS161.ge HI0.out)) hb); replace HI0 := Aside0.mk (IsS161.below (IsS161.mv HI0) hb); clear hb ho4) | ((with_reducible refine gate_callee (f := 109) rfl ?_); refine sqL (some 7) Try.func109 #[.pointer (some ⟨g, 0, none⟩), .int .i64 6] ?_; (with_reducible refine (spec_l1Rd_pick.calls k g s0_0 s0_1 6 t475 t476 w0 _ ?side1 ?side2 A2.out).mono ?_); (case side1 => exact IsS161.mv HI0); (case side2 => exact sqB2 HB (IsS161.ge HI0.out)); rintro e w5 ⟨rfl, hi, hb, hk⟩; refine ⟨_, rfl, ?_⟩; replace HO474 := Aside0.mk (Kd.R_mono (Kd.R_keep (IsS161.apart (show IsS161 w0 _ g s0_0 s0_1 from by repeat (first | (with_reducible first | exact HI0.out | apply IsS161.alloc | apply IsS161.drewN | apply IsS161.drew | apply IsS161.set_1) | exact HI0.out)) (sqy HO474.out) (by decide)) hk (fun _ h => h.2)) (fun _ h => h.1)); replace HK := Aside0.mk (KeepBut.trans (sqK HK) hk (.inl rfl)); replace HB := Aside0.mk (hb); replace HI0 := Aside0.mk (hi); (try clear hb); (try clear hb2); (try clear hk); (try clear hi)))
 go_loopg [3, 4] k (fun kq v3 v4 w' => ∃ (x3_1 : List Int) (x4_1 : Int) (x1001_1 : Int), v4 = .int .i64 x4_1 ∧ Aside0 (spec_l8Steps.l0 kq x3_1 x4_1 s0_0 x1001_1 = some (r1, r2)) ∧ Aside0 (kq ≤ k) ∧ Aside0 (Kd.R (Kd.int .i64) 3 w' w.heap.size (fun _ => True) v3 x3_1) ∧ Aside0 (IsS161 w0 w' g s0_0 x1001_1) ∧ Aside0 (KeepBut w w' g none) ∧ Aside0 (Below w0.heap.size w0 w'))
 case atStart => exact ⟨(y472), (t475), (t476), (by first | rfl | (simp; done) | (simp [*]; done)), H', ⟨Nat.le_refl _⟩, ⟨sqy HO474.out⟩, ⟨IsS161.mv HI0⟩, ⟨sqK HK⟩, ⟨sqB2 HB (IsS161.ge HI0.out)⟩⟩
 case round =>
  clear H'
  obtain ⟨x3_1, x4_1, x1001_1, rfl, HA, HK1, HO_3, HI0, HK, HB⟩ := hrel
  cases gk with
  | zero => exact absurd HA.out (by simp [spec_l8Steps.l0])
  | succ k1 =>
   have H := HA.out
   clear HA
   simp only [spec_l8Steps.l0] at H
   replace H := sqi H
   rcases H with ⟨c6, H⟩ | ⟨c6, H⟩
   ·have c6b0 : decide (0 < x4_1) = false := decide_eq_false c6
    clear c6
    simp only [Option.some.injEq, Prod.mk.injEq] at H
    obtain ⟨rfl, rfl⟩ := H
    go_wp2
    go_ret
    exact ⟨_, by first | rfl | (simp [errW_none, errW_some] <;> rfl) | (simp [*, errW_none, errW_some] <;> rfl), by (with_reducible repeat (first | apply Kd.R_alloc | apply Kd.R_drewN | apply Kd.R_drew)); exact HO_3.out, by repeat (first | (with_reducible first | exact HI0.out | apply IsS161.alloc | apply IsS161.drewN | apply IsS161.drew | apply IsS161.set_1) | exact HI0.out), by repeat (first | (with_reducible first | exact HB.out | apply below_alloc | apply pw_below_drewN | apply below_drew1 | refine below_set ?_ (IsS161.ge HI0.out)) | exact HB.out), sqK HK⟩
   have c6b0 : decide (0 < x4_1) = true := decide_eq_true c6
   clear c6
   replace H := sqbi H
   obtain ⟨⟨t477, t478⟩, A7, H⟩ := H
   try dsimp only at H
   replace H := sqi H
   rcases H with ⟨c8, H⟩ | ⟨c8, H⟩
   ·exact absurd H (by simp)
   have LMc8 := Aside0.mk c8
   clear c8
   obtain ⟨y479, hy479⟩ : ∃ y_ : List Int, y_ = (x3_1 ++ [t477]) := ⟨_, rfl⟩
   replace H : (spec_l8Steps.l0 k1 y479 (wrap64 (x4_1 - 1)) s0_0 t478) = some (r1, r2) := by first | (rw [hy479]; with_reducible exact H) | (have H2_ := (Option.bind_some _ _).symm.trans H; rw [hy479]; with_reducible exact H2_) | (have H2_ := (Option.bind_some _ _).symm.trans H; with_reducible exact H2_) | with_reducible exact H | (rw [hy479]; exact H) | exact H
   have Ny479 := Aside0.mk hy479
   clear hy479
   have H' := Aside0.mk H
   clear H
   go_wp2_with (first | ((with_reducible refine gate_callee (f := 192) rfl ?_); refine sqL (some 14) Try.func192 #[.pointer (some ⟨g, 0, none⟩)] ?_; (with_reducible refine (spec_l1Rd_wild.calls k1 g s0_0 x1001_1 t477 t478 w0 _ ?side1 ?side2 A7.out).mono ?_); (case side1 => exact IsS161.mv HI0); (case side2 => exact sqB2 HB (IsS161.ge HI0.out)); rintro e w9 ⟨rfl, hi, hb, hk⟩; refine ⟨_, rfl, ?_⟩; replace HO_3 := Aside0.mk (Kd.R_mono (Kd.R_keep (IsS161.apart (show IsS161 w0 _ g s0_0 x1001_1 from by repeat (first | (with_reducible first | exact HI0.out | apply IsS161.alloc | apply IsS161.drewN | apply IsS161.drew | apply IsS161.set_1) | exact HI0.out)) (sqy HO_3.out) (by decide)) hk (fun _ h => h.2)) (fun _ h => h.1)); replace HK := Aside0.mk (KeepBut.trans (sqK HK) hk (.inl rfl)); replace HB := Aside0.mk (hb); replace HI0 := Aside0.mk (hi); (try clear hb); (try clear hb2); (try clear hk); (try clear hi)) | ((with_reducible refine gate_builtin (b := .append) (xs := #[.tmp 12, .tmp 15]) rfl ?_); at_builtin; refine Kd.R_append (Kd.int .i64) w.heap.size rfl (.tmp 12) (.tmp 15) 39 3 (.int .i64 0) 8 rfl Try.underlying39 info3 rfl (by decide) (by omega) u3 x3_1 t477 [.int .i64 t477] (fun _ => True) (fun _ => False) rfl rfl ?aP (fun _ hk => hk.elim) ?aF ?aO (Below.refl _ _) ?aS ?aL ?_; (case aP => exact rfl); (case aF => exact (fun _ _ => trivial)); (case aO => exact (sqy HO_3.out)); (case aS => exact (keep_size (w := w) (g := g) (row := none) (sqK HK))); (case aL => have := LMc8.out; omega); intro v480 w10 ho hb hg hat; rw [← Ny479.out] at ho; replace HB := Aside0.mk (below_weaken (sqB2 HB (IsS161.ge HI0.out)) HL.out hb); replace HI0 := Aside0.mk (IsS161.grown (IsS161.mv HI0) hg (IsS161.own_ne HI0.out HO_3.out (by decide))); replace HK := Aside0.mk (KeepBut.trans (sqK HK) (KeepBut.of_grown hg g) (Kd.R_base2 HO_3.out)); have HO481 := Aside0.mk (ho); clear HO_3; clear ho hb hg hat))
   go_roundg k1
   case measure => have := HK1.out; omega
   case rel => exact ⟨(y479), (wrap64 (x4_1 - 1)), (t478), (by first | rfl | (simp; done) | (simp [*]; done)), H', ⟨by have := HK1.out; omega⟩, ⟨sqy HO481.out⟩, ⟨IsS161.mv HI0⟩, ⟨sqK HK⟩, ⟨sqB2 HB (IsS161.ge HI0.out)⟩⟩

/-! ### spec_DrawValWiden: function 85 -/
set_option maxHeartbeats 8000000 in
set_option maxRecDepth 100000 in
theorem spec_DrawValWiden.calls (k : Nat) (A0 : Option Addr) (c0 : Nat) (l0 : List Int) (r1 : Int) (r2 : Int) (r3 : Int) (r4 : Int) (r5 : Int) (r6 : Int) (r7 : Int) (r8 : Int) (r9 : List Int) (w : World) (hr0 : Kd.C (Kd.int .u8) w A0 l0.length l0) (hc0 : l0.length ≤ c0) (h : spec_DrawValWiden.f k l0 = some (r1, r2, r3, r4, r5, r6, r7, r8, r9)) :
  Calls Try.prog 85 #[.slice A0 l0.length c0] w fun e w' => ∃ v8_ : Value, e = .returned (.tuple #[.agg #[.int .i64 r1, .int .i64 r2, .int .i64 r3, .int .i64 r4], .agg #[.int .i64 r5, .int .i64 r6, .int .i64 r7, .int .i64 r8], v8_]) ∧ Kd.R (Kd.int .i64) 3 w' w.heap.size (fun _ => True) v8_ r9 ∧ Below w.heap.size w w' := by
 have hu30 := Try.underlying30
 have HR0 := Aside0.mk hr0
 have HC0 := Aside0.mk hc0
 clear hr0 hc0
 have HB := Aside0.mk (Below.refl w.heap.size w)
 have H := h
 unfold spec_DrawValWiden.f at H
 clear h
 replace H := sqbi H
 obtain ⟨⟨t484, t485⟩, A2, H⟩ := H
 try dsimp only at H
 replace H := sqbi H
 obtain ⟨⟨t487, t488, t489, t490, t491, t492, t493, t494, t495⟩, A3, H⟩ := H
 try dsimp only at H
 replace H := sqbi H
 obtain ⟨⟨t498, t501⟩, A4, H⟩ := H
 try dsimp only at H
 simp only [Option.some.injEq, Prod.mk.injEq] at H
 obtain ⟨rfl, rfl, rfl, rfl, rfl, rfl, rfl, rfl, rfl⟩ := H
 go_enter Try.func85, Try.ntmps85
 try go_wp2_with (first | ((with_reducible refine gate_dst (N := 2) rfl ?_); refine sqx 2 #[.int .i64 0, .int .i64 0, .int .i64 0, .int .i64 0] 30 ?_; intro gb482 hg w5 hbox hb; have BK482 := Aside0.mk hbox; have GW482 := sqg HB hg; replace HB := sqs HB hb; clear hb hbox hg) | ((with_reducible refine gate_dst (N := 3) rfl ?_); refine sqx 3 #[.int .i64 0, .int .i64 0, .int .i64 0, .int .i64 0] 30 ?_; intro gb483 hg w6 hbox hb; have BK483 := Aside0.mk hbox; have GW483 := sqg HB hg; have NB482_483 := sqn BK482 hg; have NB483_482 := sqm BK482 hg; replace BK482 := sqb BK482 hb; replace HB := sqs HB hb; clear hb hbox hg) | ((with_reducible refine gate_callee (f := 92) rfl ?_); refine sqL (some 9) Try.func92 #[.slice A0 l0.length c0] ?_; (with_reducible refine (spec_l1Open.calls _ _ l0 t484 t485 w _ ?side1 ?side2 ?side3 A2.out).mono ?_); (case side1 => exact sqB HB); (case side2 => exact HR0.out); (case side3 => exact HC0.out); rintro e w7 ⟨g486, rfl, hi, hb, hb2⟩; refine ⟨_, rfl, ?_⟩; replace HB := Aside0.mk (hb); have HI486 := Aside0.mk (hi); have NB486_482 := Aside0.mk (IsS161.ne_blk hi (blk_below (g := gb482) (o := .cells #[.int .i64 0, .int .i64 0, .int .i64 0, .int .i64 0] 30 (0, 0)) (sqt BK482.out) hb2) (by decide)); have NB482_486 := Aside0.mk (Ne.symm (IsS161.ne_blk hi (blk_below (g := gb482) (o := .cells #[.int .i64 0, .int .i64 0, .int .i64 0, .int .i64 0] 30 (0, 0)) (sqt BK482.out) hb2) (by decide))); replace BK482 := Aside0.mk (blk_below (g := gb482) (o := .cells #[.int .i64 0, .int .i64 0, .int .i64 0, .int .i64 0] 30 (0, 0)) (sqt BK482.out) hb2); have NB486_483 := Aside0.mk (IsS161.ne_blk hi (blk_below (g := gb483) (o := .cells #[.int .i64 0, .int .i64 0, .int .i64 0, .int .i64 0] 30 (0, 0)) (sqt BK483.out) hb2) (by decide)); have NB483_486 := Aside0.mk (Ne.symm (IsS161.ne_blk hi (blk_below (g := gb483) (o := .cells #[.int .i64 0, .int .i64 0, .int .i64 0, .int .i64 0] 30 (0, 0)) (sqt BK483.out) hb2) (by decide))); replace BK483 := Aside0.mk (blk_below (g := gb483) (o := .cells #[.int .i64 0, .int .i64 0, .int .i64 0, .int .i64 0] 30 (0, 0)) (sqt BK483.out) hb2); (try clear hb); (try clear hb2); (try clear hk); (try clear hi)) | ((with_reducible refine gate_callee (f := 179) rfl ?_); refine sqL (some 12) Try.func179 #[.pointer (some ⟨g486, 0, none⟩)] ?_; (with_reducible refine (spec_l10Two.calls k g486 t484 t485 t487 t488 t489 t490 t491 t492 t493 t494 t495 w _ ?side1 ?side2 A3.out).mono ?_); (case side1 => exact IsS161.mv HI486); (case side2 => exact sqB2 HB (IsS161.ge HI486.out)); rintro e w8 ⟨rfl, hi, hb, hk⟩; refine ⟨_, rfl, ?_⟩; replace BK482 := sqkb hk BK482 NB482_486; replace BK483 := sqkb hk BK483 NB483_486; replace HB := Aside0.mk (hb); replace HI486 := Aside0.mk (hi); (try clear hb); (try clear hb2); (try clear hk); (try clear hi)) | ((with_reducible refine gate_dst (N := 6) rfl ?_); refine sqx 6 #[.int .i64 0, .int .i64 0, .int .i64 0, .int .i64 0] 30 ?_; intro gb496 hg w9 hbox hb; have n0_ := sqb BK482 hb; have n1_ := sqb BK483 hb; have n2_ := Aside0.mk (IsS161.below (IsS161.mv HI486) hb); have n3_ := Aside0.mk (below_step (sqB2 HB (IsS161.ge HI486.out)) hb); have n4_ := Aside0.mk (hbox); have n5_ := Aside0.mk ((by rw [hg]; exact (below_size (sqB2 HB (IsS161.ge HI486.out))) : w.heap.size ≤ gb496)); have n6_ := Aside0.mk ((by rw [hg]; exact (below_size (sqB2 HB (IsS161.ge HI486.out))) : w.heap.size ≤ gb496)); have n7_ := sqn BK482 hg; have n8_ := sqm BK482 hg; have n9_ := sqn BK483 hg; have n10_ := sqm BK483 hg; have n11_ := Aside0.mk ((by rw [hg]; exact Nat.ne_of_lt (IsS161.lt (show IsS161 w _ g486 t484 t495 from by repeat (first | (with_reducible first | exact HI486.out | apply IsS161.alloc | apply IsS161.drewN | apply IsS161.drew | apply IsS161.set_1 | refine IsS161.far ?_ NB486_482.out _ | refine IsS161.far ?_ NB486_483.out _) | exact HI486.out))) : g486 ≠ gb496)); have n12_ := Aside0.mk ((by rw [hg]; exact Nat.ne_of_gt (IsS161.lt (show IsS161 w _ g486 t484 t495 from by repeat (first | (with_reducible first | exact HI486.out | apply IsS161.alloc | apply IsS161.drewN | apply IsS161.drew | apply IsS161.set_1 | refine IsS161.far ?_ NB486_482.out _ | refine IsS161.far ?_ NB486_483.out _) | exact HI486.out))) : gb496 ≠ g486)); clear BK482; clear BK483; clear HI486; clear HB; have BK482 := n0_; have BK483 := n1_; have HI486 := n2_; have HB := n3_; have BK496 := n4_; have GW496 := n5_; have GE496 := n6_; have NB482_496 := n7_; have NB496_482 := n8_; have NB483_496 := n9_; have NB496_483 := n10_; have NB486_496 := n11_; have NB496_486 := n12_; clear n0_ n1_ n2_ n3_ n4_ n5_ n6_ n7_ n8_ n9_ n10_ n11_ n12_; clear hb hbox hg) | ((with_reducible refine gate_dst (N := 7) rfl ?_); refine sqx 7 #[.int .i64 0, .int .i64 0, .int .i64 0, .int .i64 0] 30 ?_; intro gb497 hg w10 hbox hb; have n0_ := sqb BK482 hb; have n1_ := sqb BK483 hb; have n2_ := Aside0.mk (IsS161.below (IsS161.mv HI486) hb); have n3_ := sqb BK496 hb; have n4_ := Aside0.mk (below_step (sqB2 HB (IsS161.ge HI486.out)) hb); have n5_ := Aside0.mk (hbox); have n6_ := Aside0.mk ((by rw [hg]; exact (below_size (sqB2 HB (IsS161.ge HI486.out))) : w.heap.size ≤ gb497)); have n7_ := Aside0.mk ((by rw [hg]; exact (below_size (sqB2 HB (IsS161.ge HI486.out))) : w.heap.size ≤ gb497)); have n8_ := sqn BK482 hg; have n9_ := sqm BK482 hg; have n10_ := sqn BK483 hg; have n11_ := sqm BK483 hg; have n12_ := sqn BK496 hg; have n13_ := sqm BK496 hg; have n14_ := Aside0.mk ((by rw [hg]; exact Nat.ne_of_lt (IsS161.lt (show IsS161 w _ g486 t484 t495 from by repeat (first | (with_reducible first | exact HI486.out | apply IsS161.alloc | apply IsS161.drewN | apply IsS161.drew | apply IsS161.set_1 | refine IsS161.far ?_ NB486_482.out _ | refine IsS161.far ?_ NB486_483.out _ | refine IsS161.far ?_ NB486_496.out _) | exact HI486.out))) : g486 ≠ gb497)); have n15_ := Aside0.mk ((by rw [hg]; exact Nat.ne_of_gt (IsS161.lt (show IsS161 w _ g486 t484 t495 from by repeat (first | (with_reducible first | exact HI486.out | apply IsS161.alloc | apply IsS161.drewN | apply IsS161.drew | apply IsS161.set_1 | refine IsS161.far ?_ NB486_482.out _ | refine IsS161.far ?_ NB486_483.out _ | refine IsS161.far ?_ NB486_496.out _) | exact HI486.out))) : gb497 ≠ g486)); clear BK482; clear BK483; clear HI486; clear BK496; clear HB; have BK482 := n0_; have BK483 := n1_; have HI486 := n2_; have BK496 := n3_; have HB := n4_; have BK497 := n5_; have GW497 := n6_; have GE497 := n7_; have NB482_497 := n8_; have NB497_482 := n9_; have NB483_497 := n10_; have NB497_483 := n11_; have NB496_497 := n12_; have NB497_496 := n13_; have NB486_497 := n14_; have NB497_486 := n15_; clear n0_ n1_ n2_ n3_ n4_ n5_ n6_ n7_ n8_ n9_ n10_ n11_ n12_ n13_ n14_ n15_; clear hb hbox hg; obtain ⟨_, _, _, _, _, _, _, _⟩ := sqN4 NB496_482 NB496_483 NB496_497 NB496_486; obtain ⟨_, _, _, _, _, _, _, _⟩ := sqc4 BK496; obtain ⟨_, _, _, _, _, _⟩ := sqN3 NB497_482 NB497_483 NB497_486; obtain ⟨_, _, _, _, _, _, _, _⟩ := sqc4 BK497))
 obtain ⟨w20, hw_⟩ : ∃ w_, w_ = ((((((((w10.setCell ⟨gb496, 0, none⟩ (.int .i64 t487)).setCell ⟨gb496, 1, none⟩ (.int .i64 t488)).setCell ⟨gb496, 2, none⟩ (.int .i64 t489)).setCell ⟨gb496, 3, none⟩ (.int .i64 t490)).setCell ⟨gb497, 0, none⟩ (.int .i64 t491)).setCell ⟨gb497, 1, none⟩ (.int .i64 t492)).setCell ⟨gb497, 2, none⟩ (.int .i64 t493)).setCell ⟨gb497, 3, none⟩ (.int .i64 t494)) := ⟨_, rfl⟩
 replace BK482 := sqTe hw_ BK482
 replace BK483 := sqTe hw_ BK483
 replace BK496 : Aside0 (w20.heap[gb496]? = some (.cells #[.int .i64 t487, .int .i64 t488, .int .i64 t489, .int .i64 t490] 30 (0, 0))) := by rw [hw_]; exact ⟨sqP BK496⟩
 replace BK497 : Aside0 (w20.heap[gb497]? = some (.cells #[.int .i64 t491, .int .i64 t492, .int .i64 t493, .int .i64 t494] 30 (0, 0))) := by rw [hw_]; exact ⟨sqP BK497⟩
 replace HB : Aside0 (Below w.heap.size w w20) := by rw [hw_]; exact ⟨sqB2 HB (IsS161.ge HI486.out)⟩
 replace HI486 : Aside0 (IsS161 w w20 g486 t484 t495) := by rw [hw_]; exact ⟨IsS161.mv HI486⟩
 rw [← hw_]
 clear hw_
 replace BK482 := sqdr BK482
 replace BK483 := sqdr BK483
 replace BK496 := sqdr BK496
 replace BK497 := sqdr BK497
 replace HI486 := Aside0.mk (IsS161.drew HI486.out)
 replace HB := sqdB HB
 refine sqst 7 (fun w' => w'.cell? ⟨gb496, 0, none⟩ = some (.int .i64 t487) ∧ w'.cell? ⟨gb496, 1, none⟩ = some (.int .i64 t488) ∧ w'.cell? ⟨gb496, 2, none⟩ = some (.int .i64 t489) ∧ w'.cell? ⟨gb496, 3, none⟩ = some (.int .i64 t490) ∧ w'.cell? ⟨gb497, 0, none⟩ = some (.int .i64 t491) ∧ w'.cell? ⟨gb497, 1, none⟩ = some (.int .i64 t492) ∧ w'.cell? ⟨gb497, 2, none⟩ = some (.int .i64 t493) ∧ w'.cell? ⟨gb497, 3, none⟩ = some (.int .i64 t494)) sqz (fun hHeld => ?_)
 generalize w20.drew = w21 at BK482 BK483 BK496 BK497 HI486 HB hHeld ⊢
 refine pure_ (i := 2) (N := some 17) (v := ?_) (a' := ?_) #[false, false, true, false, false, false, false] rfl rfl (by kernel_rfl) (fun _ _ _ h => h) (Or.inl ⟨by rfl, ?_⟩) ?_ ?_
 rotate_left
 ·intro w'
  go_simp
  with_reducible rfl
 rotate_left
 ·simp only [Act.put, List.setIfInBounds_toArray, List.set_cons_zero, List.set_cons_succ, i64_w, i32_w]
  rfl
 refine take_ (i := 0) (N := some 15) (v := ?_) (a' := ?_) #[true, false, true, false, false, false, false] rfl rfl (by kernel_rfl) (fun _ _ _ h => h) (Or.inl ⟨by rfl, ?_⟩) hHeld ?_ ?_
 rotate_left
 ·rintro w' ⟨s0, s1, s2, s3, s4, s5, s6, s7⟩
  go_simp
  with_reducible rfl
 rotate_left
 ·simp only [Act.put, List.setIfInBounds_toArray, List.set_cons_zero, List.set_cons_succ, i64_w, i32_w]
  rfl
 refine take_ (i := 1) (N := some 16) (v := ?_) (a' := ?_) #[true, true, true, false, false, false, false] rfl rfl (by kernel_rfl) (fun _ _ _ h => h) (Or.inl ⟨by rfl, ?_⟩) hHeld ?_ ?_
 rotate_left
 ·rintro w' ⟨s0, s1, s2, s3, s4, s5, s6, s7⟩
  go_simp
  with_reducible rfl
 rotate_left
 ·simp only [Act.put, List.setIfInBounds_toArray, List.set_cons_zero, List.set_cons_succ, i64_w, i32_w]
  rfl
 refine one_ (i := 3) (N := some 18) #[true, true, true, true, false, false, false] rfl rfl (by kernel_rfl) (by decide) (fun K hK => ?_)
 refine sqG Try.func183 #[.pointer (some ⟨g486, 0, none⟩)] ?_
 with_reducible refine (spec_l8Steps.calls k g486 t484 t495 t498 t501 w _ ?side1 ?side2 A4.out).mono ?_
 (case side1 => exact IsS161.mv HI486)
 (case side2 => exact sqB2 HB (IsS161.ge HI486.out))
 rintro e w22 ⟨v499, rfl, ho0, hi, hb, hk⟩
 refine ⟨_, rfl, ?_⟩
 replace BK482 := sqkb hk BK482 NB482_486
 replace BK483 := sqkb hk BK483 NB483_486
 replace BK496 := sqkb hk BK496 NB496_486
 replace BK497 := sqkb hk BK497 NB497_486
 have HO500 := Aside0.mk (Kd.R_lower ho0 (below_size (sqB2 HB (IsS161.ge HI486.out))))
 replace HB := Aside0.mk (hb)
 replace HI486 := Aside0.mk (hi)
 (try clear hb)
 (try clear hb2)
 (try clear hk)
 (try clear hi)
 (try clear ho0)
 refine hK.out _ _ sqz (fun hHeld => ?_)
 clear hK K
 refine sqnm ?_
 refine one_ (i := 4) (N := none) #[true, true, true, true, true, false, false] rfl rfl (by kernel_rfl) (by decide) (fun K hK => ?_)
 have hs23 : w22.cell? ⟨gb482, 0, none⟩ = some (.int .i64 0) := (blk_cell BK482.out 0).trans rfl
 have hfs23 := blk_frozen BK482.out 0
 have hns23_1 := NB483_482.out
 have hns23_2 := NB496_482.out
 have hns23_3 := NB497_482.out
 have hms23_1 := NB482_483.out
 have hms23_2 := NB482_496.out
 have hms23_3 := NB482_497.out
 have hs24 : w22.cell? ⟨gb482, 1, none⟩ = some (.int .i64 0) := (blk_cell BK482.out 1).trans rfl
 have hfs24 := blk_frozen BK482.out 1
 have hns24_1 := NB483_482.out
 have hns24_2 := NB496_482.out
 have hns24_3 := NB497_482.out
 have hms24_1 := NB482_483.out
 have hms24_2 := NB482_496.out
 have hms24_3 := NB482_497.out
 have hs25 : w22.cell? ⟨gb482, 2, none⟩ = some (.int .i64 0) := (blk_cell BK482.out 2).trans rfl
 have hfs25 := blk_frozen BK482.out 2
 have hns25_1 := NB483_482.out
 have hns25_2 := NB496_482.out
 have hns25_3 := NB497_482.out
 have hms25_1 := NB482_483.out
 have hms25_2 := NB482_496.out
 have hms25_3 := NB482_497.out
 have hs26 : w22.cell? ⟨gb482, 3, none⟩ = some (.int .i64 0) := (blk_cell BK482.out 3).trans rfl
 have hfs26 := blk_frozen BK482.out 3
 have hns26_1 := NB483_482.out
 have hns26_2 := NB496_482.out
 have hns26_3 := NB497_482.out
 have hms26_1 := NB482_483.out
 have hms26_2 := NB482_496.out
 have hms26_3 := NB482_497.out
 refine skip_ (w1 := ?_) (by rfl) rfl ?_ ?_
 rotate_left
 ·go_simp
  rfl
 refine hK.out _ _ ⟨(sqfa NB496_482 ((sqfa NB496_482 ((sqfa NB496_482 ((sqfa NB496_482 (hHeld.1)))))))), (sqfa NB496_482 ((sqfa NB496_482 ((sqfa NB496_482 ((sqfa NB496_482 (hHeld.2.1)))))))), (sqfa NB496_482 ((sqfa NB496_482 ((sqfa NB496_482 ((sqfa NB496_482 (hHeld.2.2.1)))))))), (sqfa NB496_482 ((sqfa NB496_482 ((sqfa NB496_482 ((sqfa NB496_482 (hHeld.2.2.2.1)))))))), (sqfa NB497_482 ((sqfa NB497_482 ((sqfa NB497_482 ((sqfa NB497_482 (hHeld.2.2.2.2.1)))))))), (sqfa NB497_482 ((sqfa NB497_482 ((sqfa NB497_482 ((sqfa NB497_482 (hHeld.2.2.2.2.2.1)))))))), (sqfa NB497_482 ((sqfa NB497_482 ((sqfa NB497_482 ((sqfa NB497_482 (hHeld.2.2.2.2.2.2.1)))))))), (sqfa NB497_482 ((sqfa NB497_482 ((sqfa NB497_482 ((sqfa NB497_482 (hHeld.2.2.2.2.2.2.2))))))))⟩ (fun hHeld => ?_)
 clear hK K
 refine one_ (i := 5) (N := none) #[true, true, true, true, true, true, false] rfl rfl (by kernel_rfl) (by decide) (fun K hK => ?_)
 have hs27 : w22.cell? ⟨gb483, 0, none⟩ = some (.int .i64 0) := (blk_cell BK483.out 0).trans rfl
 have hfs27 := blk_frozen BK483.out 0
 have hns27_0 := NB482_483.out
 have hns27_2 := NB496_483.out
 have hns27_3 := NB497_483.out
 have hms27_0 := NB483_482.out
 have hms27_2 := NB483_496.out
 have hms27_3 := NB483_497.out
 have hs28 : w22.cell? ⟨gb483, 1, none⟩ = some (.int .i64 0) := (blk_cell BK483.out 1).trans rfl
 have hfs28 := blk_frozen BK483.out 1
 have hns28_0 := NB482_483.out
 have hns28_2 := NB496_483.out
 have hns28_3 := NB497_483.out
 have hms28_0 := NB483_482.out
 have hms28_2 := NB483_496.out
 have hms28_3 := NB483_497.out
 have hs29 : w22.cell? ⟨gb483, 2, none⟩ = some (.int .i64 0) := (blk_cell BK483.out 2).trans rfl
 have hfs29 := blk_frozen BK483.out 2
 have hns29_0 := NB482_483.out
 have hns29_2 := NB496_483.out
 have hns29_3 := NB497_483.out
 have hms29_0 := NB483_482.out
 have hms29_2 := NB483_496.out
 have hms29_3 := NB483_497.out
 have hs30 : w22.cell? ⟨gb483, 3, none⟩ = some (.int .i64 0) := (blk_cell BK483.out 3).trans rfl
 have hfs30 := blk_frozen BK483.out 3
 have hns30_0 := NB482_483.out
 have hns30_2 := NB496_483.out
 have hns30_3 := NB497_483.out
 have hms30_0 := NB483_482.out
 have hms30_2 := NB483_496.out
 have hms30_3 := NB483_497.out
 refine skip_ (w1 := ?_) (by rfl) rfl ?_ ?_
 rotate_left
 ·go_simp
  rfl
 refine hK.out _ _ ⟨(sqfa NB496_483 ((sqfa NB496_483 ((sqfa NB496_483 ((sqfa NB496_483 (hHeld.1)))))))), (sqfa NB496_483 ((sqfa NB496_483 ((sqfa NB496_483 ((sqfa NB496_483 (hHeld.2.1)))))))), (sqfa NB496_483 ((sqfa NB496_483 ((sqfa NB496_483 ((sqfa NB496_483 (hHeld.2.2.1)))))))), (sqfa NB496_483 ((sqfa NB496_483 ((sqfa NB496_483 ((sqfa NB496_483 (hHeld.2.2.2.1)))))))), (sqfa NB497_483 ((sqfa NB497_483 ((sqfa NB497_483 ((sqfa NB497_483 (hHeld.2.2.2.2.1)))))))), (sqfa NB497_483 ((sqfa NB497_483 ((sqfa NB497_483 ((sqfa NB497_483 (hHeld.2.2.2.2.2.1)))))))), (sqfa NB497_483 ((sqfa NB497_483 ((sqfa NB497_483 ((sqfa NB497_483 (hHeld.2.2.2.2.2.2.1)))))))), (sqfa NB497_483 ((sqfa NB497_483 ((sqfa NB497_483 ((sqfa NB497_483 (hHeld.2.2.2.2.2.2.2))))))))⟩ (fun hHeld => ?_)
 clear hK K
 refine pure_ (i := 6) (N := some 4) (v := ?_) (a' := ?_) #[true, true, true, true, true, true, true] rfl rfl (by kernel_rfl) (fun _ _ _ h => h) (Or.inl ⟨by rfl, ?_⟩) ?_ ?_
 rotate_left
 ·intro w'
  go_simp
  with_reducible rfl
 rotate_left
 ·simp only [Act.put, List.setIfInBounds_toArray, List.set_cons_zero, List.set_cons_succ, i64_w, i32_w]
  rfl
 refine done_ (by kernel_rfl) ?_
 try go_wp2
 refine bodyPost_ret (results_list (rs := [.cell 2 30, .cell 3 30, .tmp 4]) rfl (by simp) (.cell gb482 30 #[.int .i64 t487, .int .i64 t488, .int .i64 t489, .int .i64 t490] (0, 0) _ rfl (sqP BK482) Try.underlying30 rfl (by kernel_rfl) (.cell gb483 30 #[.int .i64 t491, .int .i64 t492, .int .i64 t493, .int .i64 t494] (0, 0) _ rfl (sqP BK483) Try.underlying30 rfl (by kernel_rfl) (.tmp .nil)))) rfl ?_
 exact ⟨_, by first | rfl | (simp [errW_none, errW_some] <;> rfl) | (simp [*, errW_none, errW_some] <;> rfl), by (with_reducible repeat (first | apply Kd.R_alloc | apply Kd.R_drewN | apply Kd.R_drew)); exact Kd.R_mono (Kd.R_far (p := ⟨gb483, 3, none⟩) (Kd.R_far (p := ⟨gb483, 2, none⟩) (Kd.R_far (p := ⟨gb483, 1, none⟩) (Kd.R_far (p := ⟨gb483, 0, none⟩) (Kd.R_far (p := ⟨gb482, 3, none⟩) (Kd.R_far (p := ⟨gb482, 2, none⟩) (Kd.R_far (p := ⟨gb482, 1, none⟩) (Kd.R_far (p := ⟨gb482, 0, none⟩) (Kd.R_types (Kd.R_types HO500.out BK482.out (by decide)) BK483.out (by decide)) (fun _ hk => hk.1.2) (.int .i64 t487)) (fun _ hk => hk.1.2) (.int .i64 t488)) (fun _ hk => hk.1.2) (.int .i64 t489)) (fun _ hk => hk.1.2) (.int .i64 t490)) (fun _ hk => hk.2) (.int .i64 t491)) (fun _ hk => hk.2) (.int .i64 t492)) (fun _ hk => hk.2) (.int .i64 t493)) (fun _ hk => hk.2) (.int .i64 t494)) (fun _ hk => trivial), sqB2 HB (IsS161.ge HI486.out)⟩

/-! ### impl_RangeJoin: function 184 -/
set_option maxHeartbeats 8000000 in
set_option maxRecDepth 100000 in
theorem impl_RangeJoin.calls (k : Nat) (a0_0 : Int) (a0_1 : Int) (a1_0 : Int) (a1_1 : Int) (r1 : Int) (r2 : Int) (w : World) (h : impl_RangeJoin.f k a0_0 a0_1 a1_0 a1_1 = some (r1, r2)) :
  Calls Try.prog 184 #[.agg #[.int .i64 a0_0, .int .i64 a0_1], .agg #[.int .i64 a1_0, .int .i64 a1_1]] w fun e w' => e = .returned (.agg #[.int .i64 r1, .int .i64 r2]) ∧ Below w.heap.size w w' := by
 have hu24 := Try.underlying24
 have HB := Aside0.mk (Below.refl w.heap.size w)
 have H := h
 unfold impl_RangeJoin.f at H
 clear h
 have HC3 := Aside0.mk H
 clear H
 go_enter Try.func184, Try.ntmps184
 go_upto_region 1 with (first | ((with_reducible refine gate_dst (N := 2) rfl ?_); refine sqx 2 #[.int .i64 a0_0, .int .i64 a0_1] 24 ?_; intro gb502 hg w4 hbox hb; have BK502 := Aside0.mk hbox; have GW502 := sqg HB hg; replace HB := sqs HB hb; clear hb hbox hg) | ((with_reducible refine gate_dst (N := 3) rfl ?_); refine sqx 3 #[.int .i64 a1_0, .int .i64 a1_1] 24 ?_; intro gb503 hg w5 hbox hb; have BK503 := Aside0.mk hbox; have GW503 := sqg HB hg; have NB502_503 := sqn BK502 hg; have NB503_502 := sqm BK502 hg; replace BK502 := sqb BK502 hb; replace HB := sqs HB hb; clear hb hbox hg) | ((with_reducible refine gate_dst (N := 4) rfl ?_); refine sqx 4 #[.int .i64 0, .int .i64 0] 24 ?_; intro gb504 hg w6 hbox hb; have BK504 := Aside0.mk hbox; have GW504 := sqg HB hg; have NB502_504 := sqn BK502 hg; have NB504_502 := sqm BK502 hg; have NB503_504 := sqn BK503 hg; have NB504_503 := sqm BK503 hg; refine sqM2 BK502 BK503 hb ?_; clear BK502 BK503; intro BK502 BK503; replace HB := sqs HB hb; clear hb hbox hg))
 (try simp only [Act.put, List.setIfInBounds_toArray, List.set_cons_zero, List.set_cons_succ])
 go_cut [5] (fun v5 wc => ∃ (kq : Nat) (x5_2 : Bool), v5 = .bool x5_2 ∧ Aside0 (impl_RangeJoin.j0 kq x5_2 a0_0 a0_1 a1_0 a1_1 = some (r1, r2)) ∧ Aside0 (kq ≤ k) ∧ Aside0 (wc.heap[gb502]? = some (.cells #[.int .i64 a0_0, .int .i64 a0_1] 24 (0, 0))) ∧ Aside0 (wc.heap[gb503]? = some (.cells #[.int .i64 a1_0, .int .i64 a1_1] 24 (0, 0))) ∧ Aside0 (wc.heap[gb504]? = some (.cells #[.int .i64 0, .int .i64 0] 24 (0, 0))) ∧ Aside0 (Below w.heap.size w wc))
 case first =>
  have H := HC3.out
  clear HC3
  replace H := sqbi H
  obtain ⟨t505, A7, H⟩ := H
  try dsimp only at H
  rcases sqI (t505 = true) with c8 | c8
  ·replace c8 := Bool.eq_false_iff.mpr c8
   subst c8
   have H1 : (impl_RangeJoin.j0 k true a0_0 a0_1 a1_0 a1_1) = some (r1, r2) := by rw [if_neg (show ¬ (false = true) by decide)] at H; exact H
   clear H
   have H := H1
   clear H1
   have H' := Aside0.mk H
   clear H
   obtain ⟨_, _, _, _⟩ := sqN2 NB502_503 NB502_504
   obtain ⟨_, _, _, _⟩ := sqc2 BK502
   go_wp2_with (first | ((with_reducible refine gate_callee (f := 76) rfl ?_); refine sqL (some 7) Try.func76 #[.agg #[.int .i64 a0_0, .int .i64 a0_1]] ?_; (with_reducible refine (impl_RangeOk.calls a0_0 a0_1 false _ A7.out).mono ?_); rintro e w20 ⟨rfl, hb⟩; refine ⟨_, rfl, ?_⟩; refine sqM3 BK502 BK503 BK504 hb ?_; clear BK502 BK503 BK504; intro BK502 BK503 BK504; replace HB := sqs HB hb; (try clear hb)))
   go_meet
   case rel => exact ⟨_, (true), (by first | rfl | (simp; done) | (simp [*]; done)), H', ⟨by first | omega | exact Nat.le_refl _⟩, sqk BK502, sqk BK503, sqk BK504, sqh HB⟩
  subst c8
  have H1 : ((impl_RangeOk.f a1_0 a1_1).bind fun t506 => (impl_RangeJoin.j0 k (!t506) a0_0 a0_1 a1_0 a1_1)) = some (r1, r2) := by rw [if_pos rfl] at H; exact H
  clear H
  have H := H1
  clear H1
  replace H := sqbi H
  obtain ⟨t506, A9, H⟩ := H
  try dsimp only at H
  have H' := Aside0.mk H
  clear H
  obtain ⟨_, _, _, _⟩ := sqN2 NB502_503 NB502_504
  obtain ⟨_, _, _, _⟩ := sqc2 BK502
  go_wp2_with (first | ((with_reducible refine gate_callee (f := 76) rfl ?_); refine sqL (some 7) Try.func76 #[.agg #[.int .i64 a0_0, .int .i64 a0_1]] ?_; (with_reducible refine (impl_RangeOk.calls a0_0 a0_1 true _ A7.out).mono ?_); rintro e w13 ⟨rfl, hb⟩; refine ⟨_, rfl, ?_⟩; refine sqM3 BK502 BK503 BK504 hb ?_; clear BK502 BK503 BK504; intro BK502 BK503 BK504; replace HB := sqs HB hb; (try clear hb); obtain ⟨_, _⟩ := sqN1 NB503_504; obtain ⟨_, _, _, _⟩ := sqc2 BK503) | (go_at_call 76; (with_reducible refine (impl_RangeOk.calls a1_0 a1_1 t506 _ A9.out).mono ?_); rintro e w16 ⟨rfl, hb⟩; refine sqM3 BK502 BK503 BK504 hb ?_; clear BK502 BK503 BK504; intro BK502 BK503 BK504; replace HB := sqs HB hb; (try clear hb)))
  go_meet
  case rel => exact ⟨_, (!t506), (by first | rfl | (simp; done) | (simp [*]; done)), H', ⟨by first | omega | exact Nat.le_refl _⟩, sqk BK502, sqk BK503, sqk BK504, sqh HB⟩
 case rest =>
  clear HC3
  obtain ⟨kq, x5_2, rfl, HA, HJ2, BK502, BK503, BK504, HB⟩ := hcut
  cases kq with
  | zero => exact absurd HA.out (by simp [impl_RangeJoin.j0])
  | succ kj2 =>
   have H := HA.out
   clear HA
   simp only [impl_RangeJoin.j0] at H
   by_cases c21 : x5_2 = true
   ·subst c21
    have H1 : ((impl_rangeNone.f).bind fun bt507 => (some (bt507.1, bt507.2))) = some (r1, r2) := by rw [if_pos rfl] at H; exact H
    clear H
    have H := H1
    clear H1
    replace H := sqbi H
    obtain ⟨⟨t507, t508⟩, A22, H⟩ := H
    try dsimp only at H
    simp only [Option.some.injEq, Prod.mk.injEq] at H
    obtain ⟨rfl, rfl⟩ := H
    go_wp2_with (first | ((with_reducible refine gate_callee (f := 126) rfl ?_); refine sqL (some 14) Try.func126 #[] ?_; (with_reducible refine (impl_rangeNone.calls  t507 t508 _ A22.out).mono ?_); rintro e w23 ⟨rfl, hb⟩; refine ⟨_, rfl, ?_⟩; refine sqM3 BK502 BK503 BK504 hb ?_; clear BK502 BK503 BK504; intro BK502 BK503 BK504; replace HB := sqs HB hb; (try clear hb); obtain ⟨_, _, _, _⟩ := sqN2 NB504_502 NB504_503; obtain ⟨_, _, _, _⟩ := sqc2 BK504))
    refine bodyPost_ret (results_cell_row rfl _ _ gb504 24 #[.int .i64 t507, .int .i64 t508] (0, 0) _ rfl (sqP BK504) Try.underlying24 rfl (by kernel_rfl)) rfl ?_
    exact sqe HB
   replace c21 := Bool.eq_false_iff.mpr c21
   subst c21
   have H1 : ((impl_Range_empty.f a0_0 a0_1).bind fun t509 => (if t509 = true then (some (a1_0, a1_1)) else ((impl_Range_empty.f a1_0 a1_1).bind fun t510 => (if t510 = true then (some (a0_0, a0_1)) else (some (mn a0_0 a1_0, mx a0_1 a1_1)))))) = some (r1, r2) := by rw [if_neg (show ¬ (false = true) by decide)] at H; exact H
   clear H
   have H := H1
   clear H1
   replace H := sqbi H
   obtain ⟨t509, A27, H⟩ := H
   try dsimp only at H
   by_cases c28 : t509 = true
   ·subst c28
    have H1 : (some (a1_0, a1_1)) = some (r1, r2) := by rw [if_pos rfl] at H; exact H
    clear H
    have H := H1
    clear H1
    simp only [Option.some.injEq, Prod.mk.injEq] at H
    obtain ⟨rfl, rfl⟩ := H
    obtain ⟨_, _, _, _⟩ := sqN2 NB502_503 NB502_504
    obtain ⟨_, _, _, _⟩ := sqc2 BK502
    go_wp2_with (first | ((with_reducible refine gate_callee (f := 95) rfl ?_); refine sqL (some 17) Try.func95 #[.agg #[.int .i64 a0_0, .int .i64 a0_1]] ?_; (with_reducible refine (impl_Range_empty.calls a0_0 a0_1 true _ A27.out).mono ?_); rintro e w32 ⟨rfl, hb⟩; refine ⟨_, rfl, ?_⟩; refine sqM3 BK502 BK503 BK504 hb ?_; clear BK502 BK503 BK504; intro BK502 BK503 BK504; replace HB := sqs HB hb; (try clear hb); obtain ⟨_, _⟩ := sqN1 NB503_504; obtain ⟨_, _, _, _⟩ := sqc2 BK503; obtain ⟨_, _, _, _⟩ := sqc2 BK504))
    refine bodyPost_ret (results_cell_row rfl _ _ gb504 24 #[.int .i64 a1_0, .int .i64 a1_1] (0, 0) _ rfl (sqP BK504) Try.underlying24 rfl (by kernel_rfl)) rfl ?_
    exact sqe HB
   replace c28 := Bool.eq_false_iff.mpr c28
   subst c28
   have H1 : ((impl_Range_empty.f a1_0 a1_1).bind fun t510 => (if t510 = true then (some (a0_0, a0_1)) else (some (mn a0_0 a1_0, mx a0_1 a1_1)))) = some (r1, r2) := by rw [if_neg (show ¬ (false = true) by decide)] at H; exact H
   clear H
   have H := H1
   clear H1
   replace H := sqbi H
   obtain ⟨t510, A36, H⟩ := H
   try dsimp only at H
   by_cases c37 : t510 = true
   ·subst c37
    have H1 : (some (a0_0, a0_1)) = some (r1, r2) := by rw [if_pos rfl] at H; exact H
    clear H
    have H := H1
    clear H1
    simp only [Option.some.injEq, Prod.mk.injEq] at H
    obtain ⟨rfl, rfl⟩ := H
    obtain ⟨_, _, _, _⟩ := sqN2 NB502_503 NB502_504
    obtain ⟨_, _, _, _⟩ := sqc2 BK502
    go_wp2_with (first | ((with_reducible refine gate_callee (f := 95) rfl ?_); refine sqL (some 17) Try.func95 #[.agg #[.int .i64 a0_0, .int .i64 a0_1]] ?_; (with_reducible refine (impl_Range_empty.calls a0_0 a0_1 false _ A27.out).mono ?_); rintro e w41 ⟨rfl, hb⟩; refine ⟨_, rfl, ?_⟩; refine sqM3 BK502 BK503 BK504 hb ?_; clear BK502 BK503 BK504; intro BK502 BK503 BK504; replace HB := sqs HB hb; (try clear hb); obtain ⟨_, _⟩ := sqN1 NB503_504; obtain ⟨_, _, _, _⟩ := sqc2 BK503) | ((with_reducible refine gate_callee (f := 95) rfl ?_); refine sqL (some 21) Try.func95 #[.agg #[.int .i64 a1_0, .int .i64 a1_1]] ?_; (with_reducible refine (impl_Range_empty.calls a1_0 a1_1 true _ A36.out).mono ?_); rintro e w44 ⟨rfl, hb⟩; refine ⟨_, rfl, ?_⟩; refine sqM3 BK502 BK503 BK504 hb ?_; clear BK502 BK503 BK504; intro BK502 BK503 BK504; replace HB := sqs HB hb; (try clear hb); obtain ⟨_, _, _, _⟩ := sqc2 BK502; obtain ⟨_, _, _, _⟩ := sqc2 BK504))
    refine bodyPost_ret (results_cell_row rfl _ _ gb504 24 #[.int .i64 a0_0, .int .i64 a0_1] (0, 0) _ rfl (sqP BK504) Try.underlying24 rfl (by kernel_rfl)) rfl ?_
    exact sqe HB
   replace c37 := Bool.eq_false_iff.mpr c37
   subst c37
   have H1 : (some (mn a0_0 a1_0, mx a0_1 a1_1)) = some (r1, r2) := by rw [if_neg (show ¬ (false = true) by decide)] at H; exact H
   clear H
   have H := H1
   clear H1
   obtain ⟨ji47, hji47⟩ : ∃ j_ : Int, (mn a0_0 a1_0) = j_ := ⟨_, rfl⟩
   replace H : (some (ji47, mx a0_1 a1_1)) = some (r1, r2) := by first | (rw [hji47] at H; exact H) | (simp only [hji47] at H ⊢; exact H)
   (try rw [hji47] at A27)
   (try rw [hji47] at A36)
   have hji47_ : (if a1_0 < a0_0 then a1_0 else a0_0) = ji47 := hji47
   obtain ⟨ji48, hji48⟩ : ∃ j_ : Int, (mx a0_1 a1_1) = j_ := ⟨_, rfl⟩
   replace H : (some (ji47, ji48)) = some (r1, r2) := by first | (rw [hji48] at H; exact H) | (simp only [hji48] at H ⊢; exact H)
   (try rw [hji48] at A27)
   (try rw [hji48] at A36)
   have hji48_ : (if a0_1 < a1_1 then a1_1 else a0_1) = ji48 := hji48
   simp only [Option.some.injEq, Prod.mk.injEq] at H
   obtain ⟨rfl, rfl⟩ := H
   obtain ⟨_, _, _, _⟩ := sqN2 NB502_503 NB502_504
   obtain ⟨_, _, _, _⟩ := sqc2 BK502
   go_wp2_with (first | ((with_reducible refine gate_callee (f := 95) rfl ?_); refine sqL (some 17) Try.func95 #[.agg #[.int .i64 a0_0, .int .i64 a0_1]] ?_; (with_reducible refine (impl_Range_empty.calls a0_0 a0_1 false _ A27.out).mono ?_); rintro e w52 ⟨rfl, hb⟩; refine ⟨_, rfl, ?_⟩; refine sqM3 BK502 BK503 BK504 hb ?_; clear BK502 BK503 BK504; intro BK502 BK503 BK504; replace HB := sqs HB hb; (try clear hb); obtain ⟨_, _⟩ := sqN1 NB503_504; obtain ⟨_, _, _, _⟩ := sqc2 BK503) | ((with_reducible refine gate_callee (f := 95) rfl ?_); refine sqL (some 21) Try.func95 #[.agg #[.int .i64 a1_0, .int .i64 a1_1]] ?_; (with_reducible refine (impl_Range_empty.calls a1_0 a1_1 false _ A36.out).mono ?_); rintro e w55 ⟨rfl, hb⟩; refine ⟨_, rfl, ?_⟩; refine sqM3 BK502 BK503 BK504 hb ?_; clear BK502 BK503 BK504; intro BK502 BK503 BK504; replace HB := sqs HB hb; (try clear hb); obtain ⟨_, _, _, _⟩ := sqc2 BK502; obtain ⟨_, _, _, _⟩ := sqc2 BK503; obtain ⟨_, _, _, _⟩ := sqc2 BK504))
   refine bodyPost_ret (results_cell_row rfl _ _ gb504 24 #[.int .i64 ji47, .int .i64 ji48] (0, 0) _ rfl (sqP BK504) Try.underlying24 rfl (by kernel_rfl)) rfl ?_
   exact ⟨by first | rfl | (simp [errW_none, errW_some] <;> rfl) | (simp only [← hji47, ← hji48]; first | rfl | (simp [errW_none, errW_some] <;> rfl)) | (simp [*, errW_none, errW_some] <;> rfl), sqB HB⟩

/-! ### impl_restAll: function 150 -/
set_option maxHeartbeats 8000000 in
set_option maxRecDepth 100000 in
theorem impl_restAll.calls  (r1 : Int) (r2 : Int) (w : World) (h : impl_restAll.f  = some (r1, r2)) :
  Calls Try.prog 150 #[] w fun e w' => e = .returned (.agg #[.int .i64 r1, .int .i64 r2]) ∧ Below w.heap.size w w' := by
 have hu26 := Try.underlying26
 have HB := Aside0.mk (Below.refl w.heap.size w)
 have H := h
 unfold impl_restAll.f at H
 clear h
 simp only [Option.some.injEq, Prod.mk.injEq] at H
 obtain ⟨rfl, rfl⟩ := H
 go_enter Try.func150, Try.ntmps150
 go_wp2_with (first | ((with_reducible refine gate_dst (N := 0) rfl ?_); refine sqx 0 #[.int .i64 0, .int .i64 0] 26 ?_; intro gb511 hg w1 hbox hb; have BK511 := Aside0.mk hbox; have GW511 := sqg HB hg; replace HB := sqs HB hb; clear hb hbox hg; obtain ⟨_, _, _, _⟩ := sqc2 BK511))
 refine bodyPost_ret (results_cell_row rfl _ _ gb511 26 #[.int .i64 1, .int .i64 0] (0, 0) _ rfl (sqP BK511) Try.underlying26 rfl (by kernel_rfl)) rfl ?_
 exact sqe HB

end Go.Proofs.Ytkekcenlleebeaa.PFnValLattice
