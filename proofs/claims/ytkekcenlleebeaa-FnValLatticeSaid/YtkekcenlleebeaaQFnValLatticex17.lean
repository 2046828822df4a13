/- Functions of the program as plain Lean functions, and that calls of them come to what these tell. Conditions: those in each law. -/
import Derived.Test.YtkekcenlleebeaaSq
import Derived.Test.YtkekcenlleebeaaDFnValLattice
import Derived.Test.YtkekcenlleebeaaQFnValLatticex0
import Derived.Test.YtkekcenlleebeaaQFnValLatticex6
import Derived.Test.YtkekcenlleebeaaQFnValLatticex9
import Derived.Test.YtkekcenlleebeaaQFnValLatticex16
namespace Go.Proofs.Ytkekcenlleebeaa.PFnValLattice
open Go.RowKit Go.Proofs.Ytkekcenlleebeaa.Sq Go.Proofs.YtkekcenlleebeaaW.PrintWords Go.Proofs.YtkekcenlleebeaaW.PrintLast Go.Proofs.YtkekcenlleebeaaW.PrintMore
attribute [local go_sem] max2_int min2_int max_two min_two max_three min_three max_four min_four   -- for this text's walks alone
set_option linter.unusedVariables false
set_option linter.unusedSimpArgs false

/-! ### spec_l9Rest: function 194 -/
set_option maxHeartbeats 8000000 in
set_option maxRecDepth 100000 in
theorem spec_l9Rest.calls (k : Nat) (g : Nat) (s0_0 : List Int) (s0_1 : Int) (r1 : Int) (r2 : Int) (r3 : Int) (w0 w : World) (hI : IsS161 w0 w g s0_0 s0_1) (hB : Below w0.heap.size w0 w) (h : spec_l9Rest.f k s0_0 s0_1 = some (r1, r2, r3)) :
  Calls Try.prog 194 #[.pointer (some ⟨g, 0, none⟩)] w fun e w' => e = .returned (.agg #[.int .i64 r1, .int .i64 r2]) ∧ IsS161 w0 w' g s0_0 r3 ∧ Below w0.heap.size w0 w' ∧ KeepBut w w' g none := by
 have hu26 := Try.underlying26
 have HI0 := Aside0.mk hI
 have HK := Aside0.mk (KeepBut.refl w g none)
 have HL := Aside0.mk hB.size
 clear hI
 have HW0 := Aside0.mk hB.size
 have HB := Aside0.mk hB
 clear hB
 have H := h
 unfold spec_l9Rest.f at H
 clear h
 replace H := sqbi H
 obtain ⟨⟨t331, t332⟩, A2, H⟩ := H
 try dsimp only at H
 replace H := sqj H
 rcases H with ⟨c3, H⟩ | ⟨c3, H⟩
 ·have c3b0 := decide_eq_true c3
  clear c3
  replace H := sqbi H
  obtain ⟨⟨t333, t334⟩, A4, H⟩ := H
  try dsimp only at H
  simp only [Option.some.injEq, Prod.mk.injEq] at H
  obtain ⟨rfl, rfl, rfl⟩ := H
  go_enter Try.func194, Try.ntmps194
  go_wp2_with (first | ((with_reducible refine gate_dst (N := 2) rfl ?_); refine sqx 2 #[.int .i64 0, .int .i64 0] 26 ?_; intro gb330 hg w5 hbox hb; have n0_ := Aside0.mk (IsS161.below (IsS161.mv HI0) hb); have n1_ := Aside0.mk (KeepBut.trans (sqK HK) (KeepBut.of_below hb g none) (.inl rfl)); have n2_ := Aside0.mk (below_step (sqB2 HB (IsS161.ge HI0.out)) hb); have n3_ := Aside0.mk (hbox); have n4_ := Aside0.mk ((by rw [hg]; exact (keep_size (w := w) (g := g) (row := none) (sqK HK)) : w.heap.size ≤ gb330)); have n5_ := Aside0.mk ((Nat.le_trans HW0.out (by rw [hg]; exact (keep_size (w := w) (g := g) (row := none) (sqK HK)) : w.heap.size ≤ gb330) : w0.heap.size ≤ gb330)); have n6_ := Aside0.mk ((by rw [hg]; exact Nat.ne_of_lt (IsS161.lt (show IsS161 w0 _ g s0_0 s0_1 from by repeat (first | (with_reducible first | exact HI0.out | apply IsS161.alloc | apply IsS161.drewN | apply IsS161.drew | apply IsS161.set_1) | exact HI0.out))) : g ≠ gb330)); have n7_ := Aside0.mk ((by rw [hg]; exact Nat.ne_of_gt (IsS161.lt (show IsS161 w0 _ g s0_0 s0_1 from by repeat (first | (with_reducible first | exact HI0.out | apply IsS161.alloc | apply IsS161.drewN | apply IsS161.drew | apply IsS161.set_1) | exact HI0.out))) : gb330 ≠ g)); clear HI0; clear HK; clear HB; have HI0 := n0_; have HK := n1_; have HB := n2_; have BK330 := n3_; have GW330 := n4_; have GE330 := n5_; have NB0_330 := n6_; have NB330_0 := n7_; clear n0_ n1_ n2_ n3_ n4_ n5_ n6_ n7_; clear hb hbox hg) | ((with_reducible refine gate_callee (f := 109) rfl ?_); refine sqL (some 6) Try.func109 #[.pointer (some ⟨g, 0, none⟩), .int .i64 8] ?_; (with_reducible refine (spec_l1Rd_pick.calls k g s0_0 s0_1 8 t331 t332 w0 _ ?side1 ?side2 A2.out).mono ?_); (case side1 => exact IsS161.mv HI0); (case side2 => exact sqB2 HB (IsS161.ge HI0.out)); rintro e w6 ⟨rfl, hi, hb, hk⟩; refine ⟨_, rfl, ?_⟩; replace BK330 := sqkb hk BK330 NB330_0; replace HK := Aside0.mk (KeepBut.trans (sqK HK) hk (.inl rfl)); replace HB := Aside0.mk (hb); replace HI0 := Aside0.mk (hi); (try clear hb); (try clear hb2); (try clear hk); (try clear hi)) | ((with_reducible refine gate_callee (f := 195) rfl ?_); refine sqL (some 10) Try.func195 #[.pointer (some ⟨g, 0, none⟩)] ?_; (with_reducible refine (spec_l1Rd_num.calls k g s0_0 t332 t333 t334 w0 _ ?side1 ?side2 A4.out).mono ?_); (case side1 => exact IsS161.mv HI0); (case side2 => exact sqB2 HB (IsS161.ge HI0.out)); rintro e w7 ⟨rfl, hi, hb, hk⟩; refine ⟨_, rfl, ?_⟩; replace BK330 := sqkb hk BK330 NB330_0; replace HK := Aside0.mk (KeepBut.trans (sqK HK) hk (.inl rfl)); replace HB := Aside0.mk (hb); replace HI0 := Aside0.mk (hi); (try clear hb); (try clear hb2); (try clear hk); (try clear hi); obtain ⟨_, _⟩ := sqN1 NB330_0; obtain ⟨_, _, _, _⟩ := sqc2 BK330))
  refine bodyPost_ret (results_cell_row rfl _ _ gb330 26 #[.int .i64 0, .int .i64 t333] (0, 0) _ rfl (sqP BK330) Try.underlying26 rfl (by kernel_rfl)) rfl ?_
  exact ⟨by first | rfl | (simp [errW_none, errW_some] <;> rfl) | (simp [*, errW_none, errW_some] <;> rfl), by repeat (first | (with_reducible first | exact HI0.out | apply IsS161.alloc | apply IsS161.drewN | apply IsS161.drew | apply IsS161.set_1 | refine IsS161.far ?_ NB0_330.out _) | exact HI0.out), by repeat (first | (with_reducible first | exact HB.out | apply below_alloc | apply pw_below_drewN | apply below_drew1 | refine below_set ?_ (IsS161.ge HI0.out) | refine below_set ?_ GE330.out) | exact HB.out), sqK HK⟩
 have c3b0 := decide_eq_false c3
 clear c3
 replace H := sqj H
 rcases H with ⟨c10, H⟩ | ⟨c10, H⟩
 ·have c10b0 : (t331 == 2) = true := beq_iff_eq.mpr c10
  have c10b1 : (t331 != 2) = false := bne_eq_false_iff_eq.mpr c10
  clear c10
  replace H := sqbi H
  obtain ⟨⟨t335, t336⟩, A11, H⟩ := H
  try dsimp only at H
  simp only [Option.some.injEq, Prod.mk.injEq] at H
  obtain ⟨rfl, rfl, rfl⟩ := H
  go_enter Try.func194, Try.ntmps194
  go_wp2_with (first | ((with_reducible refine gate_dst (N := 2) rfl ?_); refine sqx 2 #[.int .i64 0, .int .i64 0] 26 ?_; intro gb330 hg w12 hbox hb; have n0_ := Aside0.mk (IsS161.below (IsS161.mv HI0) hb); have n1_ := Aside0.mk (KeepBut.trans (sqK HK) (KeepBut.of_below hb g none) (.inl rfl)); have n2_ := Aside0.mk (below_step (sqB2 HB (IsS161.ge HI0.out)) hb); have n3_ := Aside0.mk (hbox); have n4_ := Aside0.mk ((by rw [hg]; exact (keep_size (w := w) (g := g) (row := none) (sqK HK)) : w.heap.size ≤ gb330)); have n5_ := Aside0.mk ((Nat.le_trans HW0.out (by rw [hg]; exact (keep_size (w := w) (g := g) (row := none) (sqK HK)) : w.heap.size ≤ gb330) : w0.heap.size ≤ gb330)); have n6_ := Aside0.mk ((by rw [hg]; exact Nat.ne_of_lt (IsS161.lt (show IsS161 w0 _ g s0_0 s0_1 from by repeat (first | (with_reducible first | exact HI0.out | apply IsS161.alloc | apply IsS161.drewN | apply IsS161.drew | apply IsS161.set_1) | exact HI0.out))) : g ≠ gb330)); have n7_ := Aside0.mk ((by rw [hg]; exact Nat.ne_of_gt (IsS161.lt (show IsS161 w0 _ g s0_0 s0_1 from by repeat (first | (with_reducible first | exact HI0.out | apply IsS161.alloc | apply IsS161.drewN | apply IsS161.drew | apply IsS161.set_1) | exact HI0.out))) : gb330 ≠ g)); clear HI0; clear HK; clear HB; have HI0 := n0_; have HK := n1_; have HB := n2_; have BK330 := n3_; have GW330 := n4_; have GE330 := n5_; have NB0_330 := n6_; have NB330_0 := n7_; clear n0_ n1_ n2_ n3_ n4_ n5_ n6_ n7_; clear hb hbox hg) | ((with_reducible refine gate_callee (f := 109) rfl ?_); refine sqL (some 6) Try.func109 #[.pointer (some ⟨g, 0, none⟩), .int .i64 8] ?_; (with_reducible refine (spec_l1Rd_pick.calls k g s0_0 s0_1 8 t331 t332 w0 _ ?side1 ?side2 A2.out).mono ?_); (case side1 => exact IsS161.mv HI0); (case side2 => exact sqB2 HB (IsS161.ge HI0.out)); rintro e w13 ⟨rfl, hi, hb, hk⟩; refine ⟨_, rfl, ?_⟩; replace BK330 := sqkb hk BK330 NB330_0; replace HK := Aside0.mk (KeepBut.trans (sqK HK) hk (.inl rfl)); replace HB := Aside0.mk (hb); replace HI0 := Aside0.mk (hi); (try clear hb); (try clear hb2); (try clear hk); (try clear hi)) | ((with_reducible refine gate_callee (f := 153) rfl ?_); refine sqL (some 14) Try.func153 #[] ?_; (with_reducible refine (spec_l9All.calls  t335 t336 _ A11.out).mono ?_); rintro e w14 ⟨rfl, hb⟩; refine ⟨_, rfl, ?_⟩; replace BK330 := sqb BK330 hb; replace HK := Aside0.mk (KeepBut.trans (sqK HK) (KeepBut.of_below hb g none) (.inl rfl)); replace HB := Aside0.mk (below_step (sqB2 HB (IsS161.ge HI0.out)) hb); replace HI0 := Aside0.mk (IsS161.below (IsS161.mv HI0) hb); (try clear hb); obtain ⟨_, _⟩ := sqN1 NB330_0; obtain ⟨_, _, _, _⟩ := sqc2 BK330))
  refine bodyPost_ret (results_cell_row rfl _ _ gb330 26 #[.int .i64 t335, .int .i64 t336] (0, 0) _ rfl (sqP BK330) Try.underlying26 rfl (by kernel_rfl)) rfl ?_
  exact ⟨by first | rfl | (simp [errW_none, errW_some] <;> rfl) | (simp [*, errW_none, errW_some] <;> rfl), by repeat (first | (with_reducible first | exact HI0.out | apply IsS161.alloc | apply IsS161.drewN | apply IsS161.drew | apply IsS161.set_1 | refine IsS161.far ?_ NB0_330.out _) | exact HI0.out), by repeat (first | (with_reducible first | exact HB.out | apply below_alloc | apply pw_below_drewN | apply below_drew1 | refine below_set ?_ (IsS161.ge HI0.out) | refine below_set ?_ GE330.out) | exact HB.out), sqK HK⟩
 have c10b0 : (t331 == 2) = false := beq_eq_false_iff_ne.mpr c10
 have c10b1 : (t331 != 2) = true := bne_iff_ne.mpr c10
 replace H := sqbi H
 obtain ⟨⟨t337, t338⟩, A17, H⟩ := H
 try dsimp only at H
 replace H := sqi H
 rcases H with ⟨c18, H⟩ | ⟨c18, H⟩
 ·have c18b0 : (t331 == 3) = false := beq_eq_false_iff_ne.mpr c18
  have c18b1 : (t331 != 3) = true := bne_iff_ne.mpr c18
  replace H := sqbi H
  obtain ⟨⟨t349, t350⟩, A36, H⟩ := H
  try dsimp only at H
  replace H := sqbi H
  obtain ⟨⟨t351, t352⟩, A37, H⟩ := H
  try dsimp only at H
  replace H := sqj H
  rcases H with ⟨c38, H⟩ | ⟨c38, H⟩
  ·exact absurd H (by simp)
  have c38b0 : ((wrap64 (1 + t337)) == 0) = false := beq_eq_false_iff_ne.mpr c38
  have c38b1 : ((wrap64 (1 + t337)) != 0) = true := bne_iff_ne.mpr c38
  simp only [Option.some.injEq, Prod.mk.injEq] at H
  obtain ⟨rfl, rfl, rfl⟩ := H
  go_enter Try.func194, Try.ntmps194
  go_wp2_with (first | ((with_reducible refine gate_dst (N := 2) rfl ?_); refine sqx 2 #[.int .i64 0, .int .i64 0] 26 ?_; intro gb330 hg w39 hbox hb; have n0_ := Aside0.mk (IsS161.below (IsS161.mv HI0) hb); have n1_ := Aside0.mk (KeepBut.trans (sqK HK) (KeepBut.of_below hb g none) (.inl rfl)); have n2_ := Aside0.mk (below_step (sqB2 HB (IsS161.ge HI0.out)) hb); have n3_ := Aside0.mk (hbox); have n4_ := Aside0.mk ((by rw [hg]; exact (keep_size (w := w) (g := g) (row := none) (sqK HK)) : w.heap.size ≤ gb330)); have n5_ := Aside0.mk ((Nat.le_trans HW0.out (by rw [hg]; exact (keep_size (w := w) (g := g) (row := none) (sqK HK)) : w.heap.size ≤ gb330) : w0.heap.size ≤ gb330)); have n6_ := Aside0.mk ((by rw [hg]; exact Nat.ne_of_lt (IsS161.lt (show IsS161 w0 _ g s0_0 s0_1 from by repeat (first | (with_reducible first | exact HI0.out | apply IsS161.alloc | apply IsS161.drewN | apply IsS161.drew | apply IsS161.set_1) | exact HI0.out))) : g ≠ gb330)); have n7_ := Aside0.mk ((by rw [hg]; exact Nat.ne_of_gt (IsS161.lt (show IsS161 w0 _ g s0_0 s0_1 from by repeat (first | (with_reducible first | exact HI0.out | apply IsS161.alloc | apply IsS161.drewN | apply IsS161.drew | apply IsS161.set_1) | exact HI0.out))) : gb330 ≠ g)); clear HI0; clear HK; clear HB; have HI0 := n0_; have HK := n1_; have HB := n2_; have BK330 := n3_; have GW330 := n4_; have GE330 := n5_; have NB0_330 := n6_; have NB330_0 := n7_; clear n0_ n1_ n2_ n3_ n4_ n5_ n6_ n7_; clear hb hbox hg) | ((with_reducible refine gate_callee (f := 109) rfl ?_); refine sqL (some 6) Try.func109 #[.pointer (some ⟨g, 0, none⟩), .int .i64 8] ?_; (with_reducible refine (spec_l1Rd_pick.calls k g s0_0 s0_1 8 t331 t332 w0 _ ?side1 ?side2 A2.out).mono ?_); (case side1 => exact IsS161.mv HI0); (case side2 => exact sqB2 HB (IsS161.ge HI0.out)); rintro e w40 ⟨rfl, hi, hb, hk⟩; refine ⟨_, rfl, ?_⟩; replace BK330 := sqkb hk BK330 NB330_0; replace HK := Aside0.mk (KeepBut.trans (sqK HK) hk (.inl rfl)); replace HB := Aside0.mk (hb); replace HI0 := Aside0.mk (hi); (try clear hb); (try clear hb2); (try clear hk); (try clear hi)) | ((with_reducible refine gate_callee (f := 109) rfl ?_); refine sqL (some 16) Try.func109 #[.pointer (some ⟨g, 0, none⟩), .int .i64 24] ?_; (with_reducible refine (spec_l1Rd_pick.calls k g s0_0 t332 24 t337 t338 w0 _ ?side1 ?side2 A17.out).mono ?_); (case side1 => exact IsS161.mv HI0); (case side2 => exact sqB2 HB (IsS161.ge HI0.out)); rintro e w41 ⟨rfl, hi, hb, hk⟩; refine ⟨_, rfl, ?_⟩; replace BK330 := sqkb hk BK330 NB330_0; replace HK := Aside0.mk (KeepBut.trans (sqK HK) hk (.inl rfl)); replace HB := Aside0.mk (hb); replace HI0 := Aside0.mk (hi); (try clear hb); (try clear hb2); (try clear hk); (try clear hi)) | ((with_reducible refine gate_callee (f := 109) rfl ?_); refine sqL (some 27) Try.func109 #[.pointer (some ⟨g, 0, none⟩), .int .i64 256] ?_; (with_reducible refine (spec_l1Rd_pick.calls k g s0_0 t338 256 t349 t350 w0 _ ?side1 ?side2 A36.out).mono ?_); (case side1 => exact IsS161.mv HI0); (case side2 => exact sqB2 HB (IsS161.ge HI0.out)); rintro e w42 ⟨rfl, hi, hb, hk⟩; refine ⟨_, rfl, ?_⟩; replace BK330 := sqkb hk BK330 NB330_0; replace HK := Aside0.mk (KeepBut.trans (sqK HK) hk (.inl rfl)); replace HB := Aside0.mk (hb); replace HI0 := Aside0.mk (hi); (try clear hb); (try clear hb2); (try clear hk); (try clear hi)) | ((with_reducible refine gate_callee (f := 109) rfl ?_); refine sqL (some 30) Try.func109 #[.pointer (some ⟨g, 0, none⟩), .int .i64 256] ?_; (with_reducible refine (spec_l1Rd_pick.calls k g s0_0 t350 256 t351 t352 w0 _ ?side1 ?side2 A37.out).mono ?_); (case side1 => exact IsS161.mv HI0); (case side2 => exact sqB2 HB (IsS161.ge HI0.out)); rintro e w43 ⟨rfl, hi, hb, hk⟩; refine ⟨_, rfl, ?_⟩; replace BK330 := sqkb hk BK330 NB330_0; replace HK := Aside0.mk (KeepBut.trans (sqK HK) hk (.inl rfl)); replace HB := Aside0.mk (hb); replace HI0 := Aside0.mk (hi); (try clear hb); (try clear hb2); (try clear hk); (try clear hi); obtain ⟨_, _⟩ := sqN1 NB330_0; obtain ⟨_, _, _, _⟩ := sqc2 BK330))
  refine bodyPost_ret (results_cell_row rfl _ _ gb330 26 #[.int .i64 (wrap64 (1 + t337)), .int .i64 (Int.tmod (wrap64 ((wrap64 (t349 * 256)) + t351)) (wrap64 (1 + t337)))] (0, 0) _ rfl (sqP BK330) Try.underlying26 rfl (by kernel_rfl)) rfl ?_
  exact ⟨by first | rfl | (simp [errW_none, errW_some] <;> rfl) | (simp [*, errW_none, errW_some] <;> rfl), by repeat (first | (with_reducible first | exact HI0.out | apply IsS161.alloc | apply IsS161.drewN | apply IsS161.drew | apply IsS161.set_1 | refine IsS161.far ?_ NB0_330.out _) | exact HI0.out), by repeat (first | (with_reducible first | exact HB.out | apply below_alloc | apply pw_below_drewN | apply below_drew1 | refine below_set ?_ (IsS161.ge HI0.out) | refine below_set ?_ GE330.out) | exact HB.out), sqK HK⟩
 have c18b0 : (t331 == 3) = true := beq_iff_eq.mpr c18
 have c18b1 : (t331 != 3) = false := bne_eq_false_iff_eq.mpr c18
 clear c18
 obtain ⟨y339, hy339⟩ : ∃ y_ : List Int, y_ = (([64, 4096, 65536, 65535, 32768, 60000] : List Int)) := ⟨_, rfl⟩
 replace H : ((spec_l1Rd_pick.f k s0_0 t338 6).bind fun bt342 => (if 0 ≤ bt342.1 then (if bt342.1 < (y339.length : Int) then ((spec_l1Rd_pick.f k s0_0 bt342.2 256).bind fun bt345 => ((spec_l1Rd_pick.f k s0_0 bt345.2 256).bind fun bt347 => (if (rd y339 bt342.1) = 0 then (none) else (some (rd y339 bt342.1, Int.tmod (wrap64 ((wrap64 (bt345.1 * 256)) + bt347.1)) (rd y339 bt342.1), bt347.2))))) else (none)) else (none))) = some (r1, r2, r3) := by first | (rw [hy339]; with_reducible exact H) | (have H2_ := (Option.bind_some _ _).symm.trans H; rw [hy339]; with_reducible exact H2_) | (have H2_ := (Option.bind_some _ _).symm.trans H; with_reducible exact H2_) | with_reducible exact H | (rw [hy339]; exact H) | exact H
 have Ny339 := Aside0.mk hy339
 clear hy339
 replace H := sqbi H
 obtain ⟨⟨t342, t343⟩, A19, H⟩ := H
 try dsimp only at H
 replace H := sqi H
 rcases H with ⟨c20, H⟩ | ⟨c20, H⟩
 ·exact absurd H (by simp)
 have c20b0 := decide_eq_true c20
 clear c20
 replace H := sqi H
 rcases H with ⟨c21, H⟩ | ⟨c21, H⟩
 ·exact absurd H (by simp)
 have c21b0 := decide_eq_true c21
 clear c21
 replace H := sqbi H
 obtain ⟨⟨t345, t346⟩, A22, H⟩ := H
 try dsimp only at H
 replace H := sqbi H
 obtain ⟨⟨t347, t348⟩, A23, H⟩ := H
 try dsimp only at H
 replace H := sqj H
 rcases H with ⟨c24, H⟩ | ⟨c24, H⟩
 ·exact absurd H (by simp)
 have c24b0 : ((rd y339 t342) == 0) = false := beq_eq_false_iff_ne.mpr c24
 have c24b1 : ((rd y339 t342) != 0) = true := bne_iff_ne.mpr c24
 simp only [Option.some.injEq, Prod.mk.injEq] at H
 obtain ⟨rfl, rfl, rfl⟩ := H
 go_enter Try.func194, Try.ntmps194
 go_wp2_with (first | ((with_reducible refine gate_dst (N := 2) rfl ?_); refine sqx 2 #[.int .i64 0, .int .i64 0] 26 ?_; intro gb330 hg w25 hbox hb; have n0_ := Aside0.mk (IsS161.below (IsS161.mv HI0) hb); have n1_ := Aside0.mk (KeepBut.trans (sqK HK) (KeepBut.of_below hb g none) (.inl rfl)); have n2_ := Aside0.mk (below_step (sqB2 HB (IsS161.ge HI0.out)) hb); have n3_ := Aside0.mk (hbox); have n4_ := Aside0.mk ((by rw [hg]; exact (keep_size (w := w) (g := g) (row := none) (sqK HK)) : w.heap.size ≤ gb330)); have n5_ := Aside0.mk ((Nat.le_trans HW0.out (by rw [hg]; exact (keep_size (w := w) (g := g) (row := none) (sqK HK)) : w.heap.size ≤ gb330) : w0.heap.size ≤ gb330)); have n6_ := Aside0.mk ((by rw [hg]; exact Nat.ne_of_lt (IsS161.lt (show IsS161 w0 _ g s0_0 s0_1 from by repeat (first | (with_reducible first | exact HI0.out | apply IsS161.alloc | apply IsS161.drewN | apply IsS161.drew | apply IsS161.set_1) | exact HI0.out))) : g ≠ gb330)); have n7_ := Aside0.mk ((by rw [hg]; exact Nat.ne_of_gt (IsS161.lt (show IsS161 w0 _ g s0_0 s0_1 from by repeat (first | (with_reducible first | exact HI0.out | apply IsS161.alloc | apply IsS161.drewN | apply IsS161.drew | apply IsS161.set_1) | exact HI0.out))) : gb330 ≠ g)); clear HI0; clear HK; clear HB; have HI0 := n0_; have HK := n1_; have HB := n2_; have BK330 := n3_; have GW330 := n4_; have GE330 := n5_; have NB0_330 := n6_; have NB330_0 := n7_; clear n0_ n1_ n2_ n3_ n4_ n5_ n6_ n7_; clear hb hbox hg) | ((with_reducible refine gate_callee (f := 109) rfl ?_); refine sqL (some 6) Try.func109 #[.pointer (some ⟨g, 0, none⟩), .int .i64 8] ?_; (with_reducible refine (spec_l1Rd_pick.calls k g s0_0 s0_1 8 t331 t332 w0 _ ?side1 ?side2 A2.out).mono ?_); (case side1 => exact IsS161.mv HI0); (case side2 => exact sqB2 HB (IsS161.ge HI0.out)); rintro e w26 ⟨rfl, hi, hb, hk⟩; refine ⟨_, rfl, ?_⟩; replace BK330 := sqkb hk BK330 NB330_0; replace HK := Aside0.mk (KeepBut.trans (sqK HK) hk (.inl rfl)); replace HB := Aside0.mk (hb); replace HI0 := Aside0.mk (hi); (try clear hb); (try clear hb2); (try clear hk); (try clear hi)) | ((with_reducible refine gate_callee (f := 109) rfl ?_); refine sqL (some 16) Try.func109 #[.pointer (some ⟨g, 0, none⟩), .int .i64 24] ?_; (with_reducible refine (spec_l1Rd_pick.calls k g s0_0 t332 24 t337 t338 w0 _ ?side1 ?side2 A17.out).mono ?_); (case side1 => exact IsS161.mv HI0); (case side2 => exact sqB2 HB (IsS161.ge HI0.out)); rintro e w27 ⟨rfl, hi, hb, hk⟩; refine ⟨_, rfl, ?_⟩; replace BK330 := sqkb hk BK330 NB330_0; replace HK := Aside0.mk (KeepBut.trans (sqK HK) hk (.inl rfl)); replace HB := Aside0.mk (hb); replace HI0 := Aside0.mk (hi); (try clear hb); (try clear hb2); (try clear hk); (try clear hi)) | ((with_reducible refine gate_dst (N := 20) rfl ?_); refine Kd.R_lit (Kd.int .i64) _ 3 ?hg (N := 20) ?hd (xs := ([64, 4096, 65536, 65535, 32768, 60000] : List Int)) (inner := [.int .i64 64, .int .i64 4096, .int .i64 65536, .int .i64 65535, .int .i64 32768, .int .i64 60000]) (ok := fun _ => True) (okp := fun _ => True) ?hr ?hp (fun _ hk => hk) trivial (Below.refl _ _) (Nat.le_refl _) (by simp) ?_; (case hd => rfl); (case hg => rfl); (case hr => first | (go_simp; done) | (go_simp; rfl)); (case hp => exact (Reps.one (show Kd.M (Kd.int .i64) _ _ _ 64 [.int .i64 64] from rfl) (Reps.one (show Kd.M (Kd.int .i64) _ _ _ 4096 [.int .i64 4096] from rfl) (Reps.one (show Kd.M (Kd.int .i64) _ _ _ 65536 [.int .i64 65536] from rfl) (Reps.one (show Kd.M (Kd.int .i64) _ _ _ 65535 [.int .i64 65535] from rfl) (Reps.one (show Kd.M (Kd.int .i64) _ _ _ 32768 [.int .i64 32768] from rfl) (Reps.one (show Kd.M (Kd.int .i64) _ _ _ 60000 [.int .i64 60000] from rfl) (Reps.none _ _)))))))); intro v340 w28 ho29 hb hg_ hnew_; clear hg_ hnew_; (first | rw [← Ny339.out] at ho29 | (simp only [Int.reduceToNat] at ho29; rw [← Ny339.out] at ho29)); have HO341 := Aside0.mk (Kd.R_lower ho29 (keep_size (w := w) (g := g) (row := none) (sqK HK))); replace BK330 := sqb BK330 hb; replace HK := Aside0.mk (KeepBut.trans (sqK HK) (KeepBut.of_below hb g none) (.inl rfl)); replace HB := Aside0.mk (below_step (sqB2 HB (IsS161.ge HI0.out)) hb); replace HI0 := Aside0.mk (IsS161.below (IsS161.mv HI0) hb); clear hb ho29) | ((with_reducible refine gate_callee (f := 109) rfl ?_); refine sqL (some 22) Try.func109 #[.pointer (some ⟨g, 0, none⟩), .int .i64 6] ?_; (with_reducible refine (spec_l1Rd_pick.calls k g s0_0 t338 6 t342 t343 w0 _ ?side1 ?side2 A19.out).mono ?_); (case side1 => exact IsS161.mv HI0); (case side2 => exact sqB2 HB (IsS161.ge HI0.out)); rintro e w30 ⟨rfl, hi, hb, hk⟩; refine ⟨_, rfl, ?_⟩; replace BK330 := sqkb hk BK330 NB330_0; replace HO341 := Aside0.mk (Kd.R_mono (Kd.R_keep (IsS161.apart (show IsS161 w0 _ g s0_0 t338 from by repeat (first | (with_reducible first | exact HI0.out | apply IsS161.alloc | apply IsS161.drewN | apply IsS161.drew | apply IsS161.set_1 | refine IsS161.far ?_ NB0_330.out _) | exact HI0.out)) (sqy HO341.out) (by decide)) hk (fun _ h => h.2)) (fun _ h => h.1)); replace HK := Aside0.mk (KeepBut.trans (sqK HK) hk (.inl rfl)); replace HB := Aside0.mk (hb); replace HI0 := Aside0.mk (hi); (try clear hb); (try clear hb2); (try clear hk); (try clear hi); obtain ⟨Ao31, co31, eo31⟩ := Kd.R_slice HO341.out; subst eo31; have p344 : 0 ≤ (t342 : Int) := sqd; have q344 : t342 < (y339.length : Int) := sqd; obtain ⟨ad344, e344, hx344_0⟩ := Kd.at_int (Kd.R_reads' HO341.out).2.2 t342 p344 q344; cases e344; replace p344 := eq_true p344; replace q344 := eq_true q344) | ((with_reducible refine gate_callee (f := 109) rfl ?_); refine sqL (some 27) Try.func109 #[.pointer (some ⟨g, 0, none⟩), .int .i64 256] ?_; (with_reducible refine (spec_l1Rd_pick.calls k g s0_0 t343 256 t345 t346 w0 _ ?side1 ?side2 A22.out).mono ?_); (case side1 => exact IsS161.mv HI0); (case side2 => exact sqB2 HB (IsS161.ge HI0.out)); rintro e w32 ⟨rfl, hi, hb, hk⟩; refine ⟨_, rfl, ?_⟩; replace BK330 := sqkb hk BK330 NB330_0; replace HO341 := Aside0.mk (Kd.R_mono (Kd.R_keep (IsS161.apart (show IsS161 w0 _ g s0_0 t343 from by repeat (first | (with_reducible first | exact HI0.out | apply IsS161.alloc | apply IsS161.drewN | apply IsS161.drew | apply IsS161.set_1 | refine IsS161.far ?_ NB0_330.out _) | exact HI0.out)) (sqy HO341.out) (by decide)) hk (fun _ h => h.2)) (fun _ h => h.1)); replace HK := Aside0.mk (KeepBut.trans (sqK HK) hk (.inl rfl)); replace HB := Aside0.mk (hb); replace HI0 := Aside0.mk (hi); (try clear hb); (try clear hb2); (try clear hk); (try clear hi)) | ((with_reducible refine gate_callee (f := 109) rfl ?_); refine sqL (some 30) Try.func109 #[.pointer (some ⟨g, 0, none⟩), .int .i64 256] ?_; (with_reducible refine (spec_l1Rd_pick.calls k g s0_0 t346 256 t347 t348 w0 _ ?side1 ?side2 A23.out).mono ?_); (case side1 => exact IsS161.mv HI0); (case side2 => exact sqB2 HB (IsS161.ge HI0.out)); rintro e w33 ⟨rfl, hi, hb, hk⟩; refine ⟨_, rfl, ?_⟩; replace BK330 := sqkb hk BK330 NB330_0; replace HO341 := Aside0.mk (Kd.R_mono (Kd.R_keep (IsS161.apart (show IsS161 w0 _ g s0_0 t346 from by repeat (first | (with_reducible first | exact HI0.out | apply IsS161.alloc | apply IsS161.drewN | apply IsS161.drew | apply IsS161.set_1 | refine IsS161.far ?_ NB0_330.out _) | exact HI0.out)) (sqy HO341.out) (by decide)) hk (fun _ h => h.2)) (fun _ h => h.1)); replace HK := Aside0.mk (KeepBut.trans (sqK HK) hk (.inl rfl)); replace HB := Aside0.mk (hb); replace HI0 := Aside0.mk (hi); (try clear hb); (try clear hb2); (try clear hk); (try clear hi); obtain ⟨_, _⟩ := sqN1 NB330_0; obtain ⟨_, _, _, _⟩ := sqc2 BK330))
 refine bodyPost_ret (results_cell_row rfl _ _ gb330 26 #[.int .i64 (rd y339 t342), .int .i64 (Int.tmod (wrap64 ((wrap64 (t345 * 256)) + t347)) (rd y339 t342))] (0, 0) _ rfl (sqP BK330) Try.underlying26 rfl (by kernel_rfl)) rfl ?_
 exact ⟨by first | rfl | (simp [errW_none, errW_some] <;> rfl) | (simp [*, errW_none, errW_some] <;> rfl), by repeat (first | (with_reducible first | exact HI0.out | apply IsS161.alloc | apply IsS161.drewN | apply IsS161.drew | apply IsS161.set_1 | refine IsS161.far ?_ NB0_330.out _) | exact HI0.out), by repeat (first | (with_reducible first | exact HB.out | apply below_alloc | apply pw_below_drewN | apply below_drew1 | refine below_set ?_ (IsS161.ge HI0.out) | refine below_set ?_ GE330.out) | exact HB.out), sqK HK⟩

/-! ### spec_l8Range: function 193 -/
set_option maxHeartbeats 8000000 in
set_option maxRecDepth 100000 in
theorem spec_l8Range.calls (k : Nat) (g : Nat) (s0_0 : List Int) (s0_1 : Int) (r1 : Int) (r2 : Int) (r3 : Int) (w0 w : World) (hI : IsS161 w0 w g s0_0 s0_1) (hB : Below w0.heap.size w0 w) (h : spec_l8Range.f k s0_0 s0_1 = some (r1, r2, r3)) :
  Calls Try.prog 193 #[.pointer (some ⟨g, 0, none⟩)] w fun e w' => e = .returned (.agg #[.int .i64 r1, .int .i64 r2]) ∧ IsS161 w0 w' g s0_0 r3 ∧ Below w0.heap.size w0 w' ∧ KeepBut w w' g none := by
 have hu24 := Try.underlying24
 have HI0 := Aside0.mk hI
 have HK := Aside0.mk (KeepBut.refl w g none)
 have HL := Aside0.mk hB.size
 clear hI
 have HW0 := Aside0.mk hB.size
 have HB := Aside0.mk hB
 clear hB
 have H := h
 unfold spec_l8Range.f at H
 clear h
 replace H := sqbi H
 obtain ⟨⟨t354, t355⟩, A2, H⟩ := H
 try dsimp only at H
 replace H := sqj H
 rcases H with ⟨c3, H⟩ | ⟨c3, H⟩
 ·have c3b0 : (t354 == 0) = true := beq_iff_eq.mpr c3
  have c3b1 : (t354 != 0) = false := bne_eq_false_iff_eq.mpr c3
  clear c3
  replace H := sqbi H
  obtain ⟨⟨t356, t357⟩, A4, H⟩ := H
  try dsimp only at H
  simp only [Option.some.injEq, Prod.mk.injEq] at H
  obtain ⟨rfl, rfl, rfl⟩ := H
  go_enter Try.func193, Try.ntmps193
  go_wp2_with (first | ((with_reducible refine gate_dst (N := 2) rfl ?_); refine sqx 2 #[.int .i64 0, .int .i64 0] 24 ?_; intro gb353 hg w5 hbox hb; have n0_ := Aside0.mk (IsS161.below (IsS161.mv HI0) hb); have n1_ := Aside0.mk (KeepBut.trans (sqK HK) (KeepBut.of_below hb g none) (.inl rfl)); have n2_ := Aside0.mk (below_step (sqB2 HB (IsS161.ge HI0.out)) hb); have n3_ := Aside0.mk (hbox); have n4_ := Aside0.mk ((by rw [hg]; exact (keep_size (w := w) (g := g) (row := none) (sqK HK)) : w.heap.size ≤ gb353)); have n5_ := Aside0.mk ((Nat.le_trans HW0.out (by rw [hg]; exact (keep_size (w := w) (g := g) (row := none) (sqK HK)) : w.heap.size ≤ gb353) : w0.heap.size ≤ gb353)); have n6_ := Aside0.mk ((by rw [hg]; exact Nat.ne_of_lt (IsS161.lt (show IsS161 w0 _ g s0_0 s0_1 from by repeat (first | (with_reducible first | exact HI0.out | apply IsS161.alloc | apply IsS161.drewN | apply IsS161.drew | apply IsS161.set_1) | exact HI0.out))) : g ≠ gb353)); have n7_ := Aside0.mk ((by rw [hg]; exact Nat.ne_of_gt (IsS161.lt (show IsS161 w0 _ g s0_0 s0_1 from by repeat (first | (with_reducible first | exact HI0.out | apply IsS161.alloc | apply IsS161.drewN | apply IsS161.drew | apply IsS161.set_1) | exact HI0.out))) : gb353 ≠ g)); clear HI0; clear HK; clear HB; have HI0 := n0_; have HK := n1_; have HB := n2_; have BK353 := n3_; have GW353 := n4_; have GE353 := n5_; have NB0_353 := n6_; have NB353_0 := n7_; clear n0_ n1_ n2_ n3_ n4_ n5_ n6_ n7_; clear hb hbox hg) | ((with_reducible refine gate_callee (f := 109) rfl ?_); refine sqL (some 7) Try.func109 #[.pointer (some ⟨g, 0, none⟩), .int .i64 12] ?_; (with_reducible refine (spec_l1Rd_pick.calls k g s0_0 s0_1 12 t354 t355 w0 _ ?side1 ?side2 A2.out).mono ?_); (case side1 => exact IsS161.mv HI0); (case side2 => exact sqB2 HB (IsS161.ge HI0.out)); rintro e w6 ⟨rfl, hi, hb, hk⟩; refine ⟨_, rfl, ?_⟩; replace BK353 := sqkb hk BK353 NB353_0; replace HK := Aside0.mk (KeepBut.trans (sqK HK) hk (.inl rfl)); replace HB := Aside0.mk (hb); replace HI0 := Aside0.mk (hi); (try clear hb); (try clear hb2); (try clear hk); (try clear hi)) | ((with_reducible refine gate_callee (f := 99) rfl ?_); refine sqL (some 10) Try.func99 #[] ?_; (with_reducible refine (spec_l8None.calls  t356 t357 _ A4.out).mono ?_); rintro e w7 ⟨rfl, hb⟩; refine ⟨_, rfl, ?_⟩; replace BK353 := sqb BK353 hb; replace HK := Aside0.mk (KeepBut.trans (sqK HK) (KeepBut.of_below hb g none) (.inl rfl)); replace HB := Aside0.mk (below_step (sqB2 HB (IsS161.ge HI0.out)) hb); replace HI0 := Aside0.mk (IsS161.below (IsS161.mv HI0) hb); (try clear hb); obtain ⟨_, _⟩ := sqN1 NB353_0; obtain ⟨_, _, _, _⟩ := sqc2 BK353))
  refine bodyPost_ret (results_cell_row rfl _ _ gb353 24 #[.int .i64 t356, .int .i64 t357] (0, 0) _ rfl (sqP BK353) Try.underlying24 rfl (by kernel_rfl)) rfl ?_
  exact ⟨by first | rfl | (simp [errW_none, errW_some] <;> rfl) | (simp [*, errW_none, errW_some] <;> rfl), by repeat (first | (with_reducible first | exact HI0.out | apply IsS161.alloc | apply IsS161.drewN | apply IsS161.drew | apply IsS161.set_1 | refine IsS161.far ?_ NB0_353.out _) | exact HI0.out), by repeat (first | (with_reducible first | exact HB.out | apply below_alloc | apply pw_below_drewN | apply below_drew1 | refine below_set ?_ (IsS161.ge HI0.out) | refine below_set ?_ GE353.out) | exact HB.out), sqK HK⟩
 have c3b0 : (t354 == 0) = false := beq_eq_false_iff_ne.mpr c3
 have c3b1 : (t354 != 0) = true := bne_iff_ne.mpr c3
 replace H := sqbi H
 obtain ⟨⟨t358, t359⟩, A10, H⟩ := H
 try dsimp only at H
 replace H := sqj H
 rcases H with ⟨c11, H⟩ | ⟨c11, H⟩
 ·have c11b0 := decide_eq_true c11
  clear c11
  simp only [Option.some.injEq, Prod.mk.injEq] at H
  obtain ⟨rfl, rfl, rfl⟩ := H
  go_enter Try.func193, Try.ntmps193
  go_wp2_with (first | ((with_reducible refine gate_dst (N := 2) rfl ?_); refine sqx 2 #[.int .i64 0, .int .i64 0] 24 ?_; intro gb353 hg w12 hbox hb; have n0_ := Aside0.mk (IsS161.below (IsS161.mv HI0) hb); have n1_ := Aside0.mk (KeepBut.trans (sqK HK) (KeepBut.of_below hb g none) (.inl rfl)); have n2_ := Aside0.mk (below_step (sqB2 HB (IsS161.ge HI0.out)) hb); have n3_ := Aside0.mk (hbox); have n4_ := Aside0.mk ((by rw [hg]; exact (keep_size (w := w) (g := g) (row := none) (sqK HK)) : w.heap.size ≤ gb353)); have n5_ := Aside0.mk ((Nat.le_trans HW0.out (by rw [hg]; exact (keep_size (w := w) (g := g) (row := none) (sqK HK)) : w.heap.size ≤ gb353) : w0.heap.size ≤ gb353)); have n6_ := Aside0.mk ((by rw [hg]; exact Nat.ne_of_lt (IsS161.lt (show IsS161 w0 _ g s0_0 s0_1 from by repeat (first | (with_reducible first | exact HI0.out | apply IsS161.alloc | apply IsS161.drewN | apply IsS161.drew | apply IsS161.set_1) | exact HI0.out))) : g ≠ gb353)); have n7_ := Aside0.mk ((by rw [hg]; exact Nat.ne_of_gt (IsS161.lt (show IsS161 w0 _ g s0_0 s0_1 from by repeat (first | (with_reducible first | exact HI0.out | apply IsS161.alloc | apply IsS161.drewN | apply IsS161.drew | apply IsS161.set_1) | exact HI0.out))) : gb353 ≠ g)); clear HI0; clear HK; clear HB; have HI0 := n0_; have HK := n1_; have HB := n2_; have BK353 := n3_; have GW353 := n4_; have GE353 := n5_; have NB0_353 := n6_; have NB353_0 := n7_; clear n0_ n1_ n2_ n3_ n4_ n5_ n6_ n7_; clear hb hbox hg) | ((with_reducible refine gate_callee (f := 109) rfl ?_); refine sqL (some 7) Try.func109 #[.pointer (some ⟨g, 0, none⟩), .int .i64 12] ?_; (with_reducible refine (spec_l1Rd_pick.calls k g s0_0 s0_1 12 t354 t355 w0 _ ?side1 ?side2 A2.out).mono ?_); (case side1 => exact IsS161.mv HI0); (case side2 => exact sqB2 HB (IsS161.ge HI0.out)); rintro e w13 ⟨rfl, hi, hb, hk⟩; refine ⟨_, rfl, ?_⟩; replace BK353 := sqkb hk BK353 NB353_0; replace HK := Aside0.mk (KeepBut.trans (sqK HK) hk (.inl rfl)); replace HB := Aside0.mk (hb); replace HI0 := Aside0.mk (hi); (try clear hb); (try clear hb2); (try clear hk); (try clear hi)) | ((with_reducible refine gate_callee (f := 195) rfl ?_); refine sqL (some 12) Try.func195 #[.pointer (some ⟨g, 0, none⟩)] ?_; (with_reducible refine (spec_l1Rd_num.calls k g s0_0 t355 t358 t359 w0 _ ?side1 ?side2 A10.out).mono ?_); (case side1 => exact IsS161.mv HI0); (case side2 => exact sqB2 HB (IsS161.ge HI0.out)); rintro e w14 ⟨rfl, hi, hb, hk⟩; refine ⟨_, rfl, ?_⟩; replace BK353 := sqkb hk BK353 NB353_0; replace HK := Aside0.mk (KeepBut.trans (sqK HK) hk (.inl rfl)); replace HB := Aside0.mk (hb); replace HI0 := Aside0.mk (hi); (try clear hb); (try clear hb2); (try clear hk); (try clear hi); obtain ⟨_, _⟩ := sqN1 NB353_0; obtain ⟨_, _, _, _⟩ := sqc2 BK353))
  refine bodyPost_ret (results_cell_row rfl _ _ gb353 24 #[.int .i64 t358, .int .i64 t358] (0, 0) _ rfl (sqP BK353) Try.underlying24 rfl (by kernel_rfl)) rfl ?_
  exact ⟨by first | rfl | (simp [errW_none, errW_some] <;> rfl) | (simp [*, errW_none, errW_some] <;> rfl), by repeat (first | (with_reducible first | exact HI0.out | apply IsS161.alloc | apply IsS161.drewN | apply IsS161.drew | apply IsS161.set_1 | refine IsS161.far ?_ NB0_353.out _) | exact HI0.out), by repeat (first | (with_reducible first | exact HB.out | apply below_alloc | apply pw_below_drewN | apply below_drew1 | refine below_set ?_ (IsS161.ge HI0.out) | refine below_set ?_ GE353.out) | exact HB.out), sqK HK⟩
 have c11b0 := decide_eq_false c11
 clear c11
 replace H := sqj H
 rcases H with ⟨c17, H⟩ | ⟨c17, H⟩
 ·have c17b0 := decide_eq_true c17
  clear c17
  replace H := sqbi H
  obtain ⟨⟨t360, t361⟩, A18, H⟩ := H
  try dsimp only at H
  replace H := sqbi H
  obtain ⟨⟨t362, t363⟩, A19, H⟩ := H
  try dsimp only at H
  simp only [Option.some.injEq, Prod.mk.injEq] at H
  obtain ⟨rfl, rfl, rfl⟩ := H
  go_enter Try.func193, Try.ntmps193
  go_wp2_with (first | ((with_reducible refine gate_dst (N := 2) rfl ?_); refine sqx 2 #[.int .i64 0, .int .i64 0] 24 ?_; intro gb353 hg w20 hbox hb; have n0_ := Aside0.mk (IsS161.below (IsS161.mv HI0) hb); have n1_ := Aside0.mk (KeepBut.trans (sqK HK) (KeepBut.of_below hb g none) (.inl rfl)); have n2_ := Aside0.mk (below_step (sqB2 HB (IsS161.ge HI0.out)) hb); have n3_ := Aside0.mk (hbox); have n4_ := Aside0.mk ((by rw [hg]; exact (keep_size (w := w) (g := g) (row := none) (sqK HK)) : w.heap.size ≤ gb353)); have n5_ := Aside0.mk ((Nat.le_trans HW0.out (by rw [hg]; exact (keep_size (w := w) (g := g) (row := none) (sqK HK)) : w.heap.size ≤ gb353) : w0.heap.size ≤ gb353)); have n6_ := Aside0.mk ((by rw [hg]; exact Nat.ne_of_lt (IsS161.lt (show IsS161 w0 _ g s0_0 s0_1 from by repeat (first | (with_reducible first | exact HI0.out | apply IsS161.alloc | apply IsS161.drewN | apply IsS161.drew | apply IsS161.set_1) | exact HI0.out))) : g ≠ gb353)); have n7_ := Aside0.mk ((by rw [hg]; exact Nat.ne_of_gt (IsS161.lt (show IsS161 w0 _ g s0_0 s0_1 from by repeat (first | (with_reducible first | exact HI0.out | apply IsS161.alloc | apply IsS161.drewN | apply IsS161.drew | apply IsS161.set_1) | exact HI0.out))) : gb353 ≠ g)); clear HI0; clear HK; clear HB; have HI0 := n0_; have HK := n1_; have HB := n2_; have BK353 := n3_; have GW353 := n4_; have GE353 := n5_; have NB0_353 := n6_; have NB353_0 := n7_; clear n0_ n1_ n2_ n3_ n4_ n5_ n6_ n7_; clear hb hbox hg) | ((with_reducible refine gate_callee (f := 109) rfl ?_); refine sqL (some 7) Try.func109 #[.pointer (some ⟨g, 0, none⟩), .int .i64 12] ?_; (with_reducible refine (spec_l1Rd_pick.calls k g s0_0 s0_1 12 t354 t355 w0 _ ?side1 ?side2 A2.out).mono ?_); (case side1 => exact IsS161.mv HI0); (case side2 => exact sqB2 HB (IsS161.ge HI0.out)); rintro e w21 ⟨rfl, hi, hb, hk⟩; refine ⟨_, rfl, ?_⟩; replace BK353 := sqkb hk BK353 NB353_0; replace HK := Aside0.mk (KeepBut.trans (sqK HK) hk (.inl rfl)); replace HB := Aside0.mk (hb); replace HI0 := Aside0.mk (hi); (try clear hb); (try clear hb2); (try clear hk); (try clear hi)) | ((with_reducible refine gate_callee (f := 195) rfl ?_); refine sqL (some 12) Try.func195 #[.pointer (some ⟨g, 0, none⟩)] ?_; (with_reducible refine (spec_l1Rd_num.calls k g s0_0 t355 t358 t359 w0 _ ?side1 ?side2 A10.out).mono ?_); (case side1 => exact IsS161.mv HI0); (case side2 => exact sqB2 HB (IsS161.ge HI0.out)); rintro e w22 ⟨rfl, hi, hb, hk⟩; refine ⟨_, rfl, ?_⟩; replace BK353 := sqkb hk BK353 NB353_0; replace HK := Aside0.mk (KeepBut.trans (sqK HK) hk (.inl rfl)); replace HB := Aside0.mk (hb); replace HI0 := Aside0.mk (hi); (try clear hb); (try clear hb2); (try clear hk); (try clear hi)) | ((with_reducible refine gate_callee (f := 109) rfl ?_); refine sqL (some 23) Try.func109 #[.pointer (some ⟨g, 0, none⟩), .int .i64 40] ?_; (with_reducible refine (spec_l1Rd_pick.calls k g s0_0 t359 40 t360 t361 w0 _ ?side1 ?side2 A18.out).mono ?_); (case side1 => exact IsS161.mv HI0); (case side2 => exact sqB2 HB (IsS161.ge HI0.out)); rintro e w23 ⟨rfl, hi, hb, hk⟩; refine ⟨_, rfl, ?_⟩; replace BK353 := sqkb hk BK353 NB353_0; replace HK := Aside0.mk (KeepBut.trans (sqK HK) hk (.inl rfl)); replace HB := Aside0.mk (hb); replace HI0 := Aside0.mk (hi); (try clear hb); (try clear hb2); (try clear hk); (try clear hi)) | ((with_reducible refine gate_callee (f := 133) rfl ?_); refine sqL (some 25) Try.func133 #[.int .i64 t358, .int .i64 (wrap64 (t358 + t360))] ?_; (with_reducible refine (spec_l8Cut.calls t358 (wrap64 (t358 + t360)) t362 t363 _ A19.out).mono ?_); rintro e w24 ⟨rfl, hb⟩; refine ⟨_, rfl, ?_⟩; replace BK353 := sqb BK353 hb; replace HK := Aside0.mk (KeepBut.trans (sqK HK) (KeepBut.of_below hb g none) (.inl rfl)); replace HB := Aside0.mk (below_step (sqB2 HB (IsS161.ge HI0.out)) hb); replace HI0 := Aside0.mk (IsS161.below (IsS161.mv HI0) hb); (try clear hb); obtain ⟨_, _⟩ := sqN1 NB353_0; obtain ⟨_, _, _, _⟩ := sqc2 BK353))
  refine bodyPost_ret (results_cell_row rfl _ _ gb353 24 #[.int .i64 t362, .int .i64 t363] (0, 0) _ rfl (sqP BK353) Try.underlying24 rfl (by kernel_rfl)) rfl ?_
  exact ⟨by first | rfl | (simp [errW_none, errW_some] <;> rfl) | (simp [*, errW_none, errW_some] <;> rfl), by repeat (first | (with_reducible first | exact HI0.out | apply IsS161.alloc | apply IsS161.drewN | apply IsS161.drew | apply IsS161.set_1 | refine IsS161.far ?_ NB0_353.out _) | exact HI0.out), by repeat (first | (with_reducible first | exact HB.out | apply below_alloc | apply pw_below_drewN | apply below_drew1 | refine below_set ?_ (IsS161.ge HI0.out) | refine below_set ?_ GE353.out) | exact HB.out), sqK HK⟩
 have c17b0 := decide_eq_false c17
 clear c17
 replace H := sqj H
 rcases H with ⟨c27, H⟩ | ⟨c27, H⟩
 ·have c27b0 : (t354 == 7) = true := beq_iff_eq.mpr c27
  have c27b1 : (t354 != 7) = false := bne_eq_false_iff_eq.mpr c27
  clear c27
  simp only [Option.some.injEq, Prod.mk.injEq] at H
  obtain ⟨rfl, rfl, rfl⟩ := H
  go_enter Try.func193, Try.ntmps193
  go_wp2_with (first | ((with_reducible refine gate_dst (N := 2) rfl ?_); refine sqx 2 #[.int .i64 0, .int .i64 0] 24 ?_; intro gb353 hg w28 hbox hb; have n0_ := Aside0.mk (IsS161.below (IsS161.mv HI0) hb); have n1_ := Aside0.mk (KeepBut.trans (sqK HK) (KeepBut.of_below hb g none) (.inl rfl)); have n2_ := Aside0.mk (below_step (sqB2 HB (IsS161.ge HI0.out)) hb); have n3_ := Aside0.mk (hbox); have n4_ := Aside0.mk ((by rw [hg]; exact (keep_size (w := w) (g := g) (row := none) (sqK HK)) : w.heap.size ≤ gb353)); have n5_ := Aside0.mk ((Nat.le_trans HW0.out (by rw [hg]; exact (keep_size (w := w) (g := g) (row := none) (sqK HK)) : w.heap.size ≤ gb353) : w0.heap.size ≤ gb353)); have n6_ := Aside0.mk ((by rw [hg]; exact Nat.ne_of_lt (IsS161.lt (show IsS161 w0 _ g s0_0 s0_1 from by repeat (first | (with_reducible first | exact HI0.out | apply IsS161.alloc | apply IsS161.drewN | apply IsS161.drew | apply IsS161.set_1) | exact HI0.out))) : g ≠ gb353)); have n7_ := Aside0.mk ((by rw [hg]; exact Nat.ne_of_gt (IsS161.lt (show IsS161 w0 _ g s0_0 s0_1 from by repeat (first | (with_reducible first | exact HI0.out | apply IsS161.alloc | apply IsS161.drewN | apply IsS161.drew | apply IsS161.set_1) | exact HI0.out))) : gb353 ≠ g)); clear HI0; clear HK; clear HB; have HI0 := n0_; have HK := n1_; have HB := n2_; have BK353 := n3_; have GW353 := n4_; have GE353 := n5_; have NB0_353 := n6_; have NB353_0 := n7_; clear n0_ n1_ n2_ n3_ n4_ n5_ n6_ n7_; clear hb hbox hg) | ((with_reducible refine gate_callee (f := 109) rfl ?_); refine sqL (some 7) Try.func109 #[.pointer (some ⟨g, 0, none⟩), .int .i64 12] ?_; (with_reducible refine (spec_l1Rd_pick.calls k g s0_0 s0_1 12 t354 t355 w0 _ ?side1 ?side2 A2.out).mono ?_); (case side1 => exact IsS161.mv HI0); (case side2 => exact sqB2 HB (IsS161.ge HI0.out)); rintro e w29 ⟨rfl, hi, hb, hk⟩; refine ⟨_, rfl, ?_⟩; replace BK353 := sqkb hk BK353 NB353_0; replace HK := Aside0.mk (KeepBut.trans (sqK HK) hk (.inl rfl)); replace HB := Aside0.mk (hb); replace HI0 := Aside0.mk (hi); (try clear hb); (try clear hb2); (try clear hk); (try clear hi)) | ((with_reducible refine gate_callee (f := 195) rfl ?_); refine sqL (some 12) Try.func195 #[.pointer (some ⟨g, 0, none⟩)] ?_; (with_reducible refine (spec_l1Rd_num.calls k g s0_0 t355 t358 t359 w0 _ ?side1 ?side2 A10.out).mono ?_); (case side1 => exact IsS161.mv HI0); (case side2 => exact sqB2 HB (IsS161.ge HI0.out)); rintro e w30 ⟨rfl, hi, hb, hk⟩; refine ⟨_, rfl, ?_⟩; replace BK353 := sqkb hk BK353 NB353_0; replace HK := Aside0.mk (KeepBut.trans (sqK HK) hk (.inl rfl)); replace HB := Aside0.mk (hb); replace HI0 := Aside0.mk (hi); (try clear hb); (try clear hb2); (try clear hk); (try clear hi); obtain ⟨_, _⟩ := sqN1 NB353_0; obtain ⟨_, _, _, _⟩ := sqc2 BK353))
  refine bodyPost_ret (results_cell_row rfl _ _ gb353 24 #[.int .i64 (-2147483648), .int .i64 2147483647] (0, 0) _ rfl (sqP BK353) Try.underlying24 rfl (by kernel_rfl)) rfl ?_
  exact ⟨by first | rfl | (simp [errW_none, errW_some] <;> rfl) | (simp [*, errW_none, errW_some] <;> rfl), by repeat (first | (with_reducible first | exact HI0.out | apply IsS161.alloc | apply IsS161.drewN | apply IsS161.drew | apply IsS161.set_1 | refine IsS161.far ?_ NB0_353.out _) | exact HI0.out), by repeat (first | (with_reducible first | exact HB.out | apply below_alloc | apply pw_below_drewN | apply below_drew1 | refine below_set ?_ (IsS161.ge HI0.out) | refine below_set ?_ GE353.out) | exact HB.out), sqK HK⟩
 have c27b0 : (t354 == 7) = false := beq_eq_false_iff_ne.mpr c27
 have c27b1 : (t354 != 7) = true := bne_iff_ne.mpr c27
 replace H := sqbi H
 obtain ⟨⟨t364, t365⟩, A33, H⟩ := H
 try dsimp only at H
 replace H := sqbi H
 obtain ⟨t366, A34, H⟩ := H
 try dsimp only at H
 replace H := sqbi H
 obtain ⟨t367, A35, H⟩ := H
 try dsimp only at H
 replace H := sqbi H
 obtain ⟨⟨t368, t369⟩, A36, H⟩ := H
 try dsimp only at H
 simp only [Option.some.injEq, Prod.mk.injEq] at H
 obtain ⟨rfl, rfl, rfl⟩ := H
 go_enter Try.func193, Try.ntmps193
 go_wp2_with (first | ((with_reducible refine gate_dst (N := 2) rfl ?_); refine sqx 2 #[.int .i64 0, .int .i64 0] 24 ?_; intro gb353 hg w37 hbox hb; have n0_ := Aside0.mk (IsS161.below (IsS161.mv HI0) hb); have n1_ := Aside0.mk (KeepBut.trans (sqK HK) (KeepBut.of_below hb g none) (.inl rfl)); have n2_ := Aside0.mk (below_step (sqB2 HB (IsS161.ge HI0.out)) hb); have n3_ := Aside0.mk (hbox); have n4_ := Aside0.mk ((by rw [hg]; exact (keep_size (w := w) (g := g) (row := none) (sqK HK)) : w.heap.size ≤ gb353)); have n5_ := Aside0.mk ((Nat.le_trans HW0.out (by rw [hg]; exact (keep_size (w := w) (g := g) (row := none) (sqK HK)) : w.heap.size ≤ gb353) : w0.heap.size ≤ gb353)); have n6_ := Aside0.mk ((by rw [hg]; exact Nat.ne_of_lt (IsS161.lt (show IsS161 w0 _ g s0_0 s0_1 from by repeat (first | (with_reducible first | exact HI0.out | apply IsS161.alloc | apply IsS161.drewN | apply IsS161.drew | apply IsS161.set_1) | exact HI0.out))) : g ≠ gb353)); have n7_ := Aside0.mk ((by rw [hg]; exact Nat.ne_of_gt (IsS161.lt (show IsS161 w0 _ g s0_0 s0_1 from by repeat (first | (with_reducible first | exact HI0.out | apply IsS161.alloc | apply IsS161.drewN | apply IsS161.drew | apply IsS161.set_1) | exact HI0.out))) : gb353 ≠ g)); clear HI0; clear HK; clear HB; have HI0 := n0_; have HK := n1_; have HB := n2_; have BK353 := n3_; have GW353 := n4_; have GE353 := n5_; have NB0_353 := n6_; have NB353_0 := n7_; clear n0_ n1_ n2_ n3_ n4_ n5_ n6_ n7_; clear hb hbox hg) | ((with_reducible refine gate_callee (f := 109) rfl ?_); refine sqL (some 7) Try.func109 #[.pointer (some ⟨g, 0, none⟩), .int .i64 12] ?_; (with_reducible refine (spec_l1Rd_pick.calls k g s0_0 s0_1 12 t354 t355 w0 _ ?side1 ?side2 A2.out).mono ?_); (case side1 => exact IsS161.mv HI0); (case side2 => exact sqB2 HB (IsS161.ge HI0.out)); rintro e w38 ⟨rfl, hi, hb, hk⟩; refine ⟨_, rfl, ?_⟩; replace BK353 := sqkb hk BK353 NB353_0; replace HK := Aside0.mk (KeepBut.trans (sqK HK) hk (.inl rfl)); replace HB := Aside0.mk (hb); replace HI0 := Aside0.mk (hi); (try clear hb); (try clear hb2); (try clear hk); (try clear hi)) | ((with_reducible refine gate_callee (f := 195) rfl ?_); refine sqL (some 12) Try.func195 #[.pointer (some ⟨g, 0, none⟩)] ?_; (with_reducible refine (spec_l1Rd_num.calls k g s0_0 t355 t358 t359 w0 _ ?side1 ?side2 A10.out).mono ?_); (case side1 => exact IsS161.mv HI0); (case side2 => exact sqB2 HB (IsS161.ge HI0.out)); rintro e w39 ⟨rfl, hi, hb, hk⟩; refine ⟨_, rfl, ?_⟩; replace BK353 := sqkb hk BK353 NB353_0; replace HK := Aside0.mk (KeepBut.trans (sqK HK) hk (.inl rfl)); replace HB := Aside0.mk (hb); replace HI0 := Aside0.mk (hi); (try clear hb); (try clear hb2); (try clear hk); (try clear hi)) | ((with_reducible refine gate_callee (f := 195) rfl ?_); refine sqL (some 30) Try.func195 #[.pointer (some ⟨g, 0, none⟩)] ?_; (with_reducible refine (spec_l1Rd_num.calls k g s0_0 t359 t364 t365 w0 _ ?side1 ?side2 A33.out).mono ?_); (case side1 => exact IsS161.mv HI0); (case side2 => exact sqB2 HB (IsS161.ge HI0.out)); rintro e w40 ⟨rfl, hi, hb, hk⟩; refine ⟨_, rfl, ?_⟩; replace BK353 := sqkb hk BK353 NB353_0; replace HK := Aside0.mk (KeepBut.trans (sqK HK) hk (.inl rfl)); replace HB := Aside0.mk (hb); replace HI0 := Aside0.mk (hi); (try clear hb); (try clear hb2); (try clear hk); (try clear hi)) | ((with_reducible refine gate_callee (f := 134) rfl ?_); refine sqL (some 33) Try.func134 #[.int .i64 t358, .int .i64 t364] ?_; (with_reducible refine (spec_l8Min.calls t358 t364 t366 _ A34.out).mono ?_); rintro e w' ⟨rfl, ⟨nd, rfl⟩⟩; refine ⟨_, rfl, ?_⟩; (try (rw [drewN_self w40]; generalize hq_ : World.drewN w40 _ = w40; have n0_ : Aside0 (w40.heap[gb353]? = some (.cells #[.int .i64 0, .int .i64 0] 24 (0, 0))) := ⟨by rw [← hq_]; exact (sqt BK353.out)⟩; have n1_ : Aside0 (IsS161 w0 w40 g s0_0 t365) := ⟨by rw [← hq_]; exact (IsS161.mv HI0)⟩; have n2_ : Aside0 (KeepBut w w40 g none) := ⟨by rw [← hq_]; exact (sqK HK)⟩; have n3_ : Aside0 (Below w0.heap.size w0 w40) := ⟨by rw [← hq_]; exact (sqB2 HB (IsS161.ge HI0.out))⟩; clear BK353 HI0 HK HB hq_; have BK353 := n0_; have HI0 := n1_; have HK := n2_; have HB := n3_; clear n0_ n1_ n2_ n3_))) | ((with_reducible refine gate_callee (f := 122) rfl ?_); refine sqL (some 36) Try.func122 #[.int .i64 t358, .int .i64 t364] ?_; (with_reducible refine (spec_l8Max.calls t358 t364 t367 _ A35.out).mono ?_); rintro e w' ⟨rfl, ⟨nd, rfl⟩⟩; refine ⟨_, rfl, ?_⟩; (try (rw [drewN_self w40]; generalize hq_ : World.drewN w40 _ = w40; have n0_ : Aside0 (w40.heap[gb353]? = some (.cells #[.int .i64 0, .int .i64 0] 24 (0, 0))) := ⟨by rw [← hq_]; exact (sqt BK353.out)⟩; have n1_ : Aside0 (IsS161 w0 w40 g s0_0 t365) := ⟨by rw [← hq_]; exact (IsS161.mv HI0)⟩; have n2_ : Aside0 (KeepBut w w40 g none) := ⟨by rw [← hq_]; exact (sqK HK)⟩; have n3_ : Aside0 (Below w0.heap.size w0 w40) := ⟨by rw [← hq_]; exact (sqB2 HB (IsS161.ge HI0.out))⟩; clear BK353 HI0 HK HB hq_; have BK353 := n0_; have HI0 := n1_; have HK := n2_; have HB := n3_; clear n0_ n1_ n2_ n3_))) | ((with_reducible refine gate_callee (f := 133) rfl ?_); refine sqL (some 37) Try.func133 #[.int .i64 t366, .int .i64 t367] ?_; (with_reducible refine (spec_l8Cut.calls t366 t367 t368 t369 _ A36.out).mono ?_); rintro e w41 ⟨rfl, hb⟩; refine ⟨_, rfl, ?_⟩; replace BK353 := sqb BK353 hb; replace HK := Aside0.mk (KeepBut.trans (sqK HK) (KeepBut.of_below hb g none) (.inl rfl)); replace HB := Aside0.mk (below_step (sqB2 HB (IsS161.ge HI0.out)) hb); replace HI0 := Aside0.mk (IsS161.below (IsS161.mv HI0) hb); (try clear hb); obtain ⟨_, _⟩ := sqN1 NB353_0; obtain ⟨_, _, _, _⟩ := sqc2 BK353))
 refine bodyPost_ret (results_cell_row rfl _ _ gb353 24 #[.int .i64 t368, .int .i64 t369] (0, 0) _ rfl (sqP BK353) Try.underlying24 rfl (by kernel_rfl)) rfl ?_
 exact ⟨by first | rfl | (simp [errW_none, errW_some] <;> rfl) | (simp [*, errW_none, errW_some] <;> rfl), by repeat (first | (with_reducible first | exact HI0.out | apply IsS161.alloc | apply IsS161.drewN | apply IsS161.drew | apply IsS161.set_1 | refine IsS161.far ?_ NB0_353.out _) | exact HI0.out), by repeat (first | (with_reducible first | exact HB.out | apply below_alloc | apply pw_below_drewN | apply below_drew1 | refine below_set ?_ (IsS161.ge HI0.out) | refine below_set ?_ GE353.out) | exact HB.out), sqK HK⟩

/-! ### spec_l10Val: function 221 -/
set_option maxHeartbeats 8000000 in
set_option maxRecDepth 100000 in
theorem spec_l10Val.calls (k : Nat) (g : Nat) (s0_0 : List Int) (s0_1 : Int) (r1 : Int) (r2 : Int) (r3 : Int) (r4 : Int) (r5 : Int) (w0 w : World) (hI : IsS161 w0 w g s0_0 s0_1) (hB : Below w0.heap.size w0 w) (h : spec_l10Val.f k s0_0 s0_1 = some (r1, r2, r3, r4, r5)) :
  Calls Try.prog 221 #[.pointer (some ⟨g, 0, none⟩)] w fun e w' => e = .returned (.agg #[.int .i64 r1, .int .i64 r2, .int .i64 r3, .int .i64 r4]) ∧ IsS161 w0 w' g s0_0 r5 ∧ Below w0.heap.size w0 w' ∧ KeepBut w w' g none := by
 have hu30 := Try.underlying30
 have hu24 := Try.underlying24
 have HI0 := Aside0.mk hI
 have HK := Aside0.mk (KeepBut.refl w g none)
 have HL := Aside0.mk hB.size
 clear hI
 have HW0 := Aside0.mk hB.size
 have HB := Aside0.mk hB
 clear hB
 have H := h
 unfold spec_l10Val.f at H
 clear h
 replace H := sqbi H
 obtain ⟨⟨t371, t372, t373⟩, A2, H⟩ := H
 try dsimp only at H
 replace H := sqbi H
 obtain ⟨⟨t375, t376⟩, A3, H⟩ := H
 try dsimp only at H
 replace H := sqj H
 rcases H with ⟨c4, H⟩ | ⟨c4, H⟩
 ·have c4b0 : (t375 == 0) = true := beq_iff_eq.mpr c4
  have c4b1 : (t375 != 0) = false := bne_eq_false_iff_eq.mpr c4
  clear c4
  replace H := sqbi H
  obtain ⟨⟨t377, t378⟩, A5, H⟩ := H
  try dsimp only at H
  replace H := sqbi H
  obtain ⟨⟨t379, t380, t381, t382⟩, A6, H⟩ := H
  try dsimp only at H
  simp only [Option.some.injEq, Prod.mk.injEq] at H
  obtain ⟨rfl, rfl, rfl, rfl, rfl⟩ := H
  go_enter Try.func221, Try.ntmps221
  try go_wp2_with (first | ((with_reducible refine gate_dst (N := 2) rfl ?_); refine sqx 2 #[.int .i64 0, .int .i64 0, .int .i64 0, .int .i64 0] 30 ?_; intro gb370 hg w7 hbox hb; have n0_ := Aside0.mk (IsS161.below (IsS161.mv HI0) hb); have n1_ := Aside0.mk (KeepBut.trans (sqK HK) (KeepBut.of_below hb g none) (.inl rfl)); have n2_ := Aside0.mk (below_step (sqB2 HB (IsS161.ge HI0.out)) hb); have n3_ := Aside0.mk (hbox); have n4_ := Aside0.mk ((by rw [hg]; exact (keep_size (w := w) (g := g) (row := none) (sqK HK)) : w.heap.size ≤ gb370)); have n5_ := Aside0.mk ((Nat.le_trans HW0.out (by rw [hg]; exact (keep_size (w := w) (g := g) (row := none) (sqK HK)) : w.heap.size ≤ gb370) : w0.heap.size ≤ gb370)); have n6_ := Aside0.mk ((by rw [hg]; exact Nat.ne_of_lt (IsS161.lt (show IsS161 w0 _ g s0_0 s0_1 from by repeat (first | (with_reducible first | exact HI0.out | apply IsS161.alloc | apply IsS161.drewN | apply IsS161.drew | apply IsS161.set_1) | exact HI0.out))) : g ≠ gb370)); have n7_ := Aside0.mk ((by rw [hg]; exact Nat.ne_of_gt (IsS161.lt (show IsS161 w0 _ g s0_0 s0_1 from by repeat (first | (with_reducible first | exact HI0.out | apply IsS161.alloc | apply IsS161.drewN | apply IsS161.drew | apply IsS161.set_1) | exact HI0.out))) : gb370 ≠ g)); clear HI0; clear HK; clear HB; have HI0 := n0_; have HK := n1_; have HB := n2_; have BK370 := n3_; have GW370 := n4_; have GE370 := n5_; have NB0_370 := n6_; have NB370_0 := n7_; clear n0_ n1_ n2_ n3_ n4_ n5_ n6_ n7_; clear hb hbox hg) | ((with_reducible refine gate_callee (f := 193) rfl ?_); refine sqL (some 5) Try.func193 #[.pointer (some ⟨g, 0, none⟩)] ?_; (with_reducible refine (spec_l8Range.calls k g s0_0 s0_1 t371 t372 t373 w0 _ ?side1 ?side2 A2.out).mono ?_); (case side1 => exact IsS161.mv HI0); (case side2 => exact sqB2 HB (IsS161.ge HI0.out)); rintro e w8 ⟨rfl, hi, hb, hk⟩; refine ⟨_, rfl, ?_⟩; replace BK370 := sqkb hk BK370 NB370_0; replace HK := Aside0.mk (KeepBut.trans (sqK HK) hk (.inl rfl)); replace HB := Aside0.mk (hb); replace HI0 := Aside0.mk (hi); (try clear hb); (try clear hb2); (try clear hk); (try clear hi)) | ((with_reducible refine gate_dst (N := 3) rfl ?_); refine sqx 3 #[.int .i64 0, .int .i64 0] 24 ?_; intro gb374 hg w9 hbox hb; have n0_ := Aside0.mk (IsS161.below (IsS161.mv HI0) hb); have n1_ := sqb BK370 hb; have n2_ := Aside0.mk (KeepBut.trans (sqK HK) (KeepBut.of_below hb g none) (.inl rfl)); have n3_ := Aside0.mk (below_step (sqB2 HB (IsS161.ge HI0.out)) hb); have n4_ := Aside0.mk (hbox); have n5_ := Aside0.mk ((by rw [hg]; exact (keep_size (w := w) (g := g) (row := none) (sqK HK)) : w.heap.size ≤ gb374)); have n6_ := Aside0.mk ((Nat.le_trans HW0.out (by rw [hg]; exact (keep_size (w := w) (g := g) (row := none) (sqK HK)) : w.heap.size ≤ gb374) : w0.heap.size ≤ gb374)); have n7_ := sqn BK370 hg; have n8_ := sqm BK370 hg; have n9_ := Aside0.mk ((by rw [hg]; exact Nat.ne_of_lt (IsS161.lt (show IsS161 w0 _ g s0_0 t373 from by repeat (first | (with_reducible first | exact HI0.out | apply IsS161.alloc | apply IsS161.drewN | apply IsS161.drew | apply IsS161.set_1 | refine IsS161.far ?_ NB0_370.out _) | exact HI0.out))) : g ≠ gb374)); have n10_ := Aside0.mk ((by rw [hg]; exact Nat.ne_of_gt (IsS161.lt (show IsS161 w0 _ g s0_0 t373 from by repeat (first | (with_reducible first | exact HI0.out | apply IsS161.alloc | apply IsS161.drewN | apply IsS161.drew | apply IsS161.set_1 | refine IsS161.far ?_ NB0_370.out _) | exact HI0.out))) : gb374 ≠ g)); clear HI0; clear BK370; clear HK; clear HB; have HI0 := n0_; have BK370 := n1_; have HK := n2_; have HB := n3_; have BK374 := n4_; have GW374 := n5_; have GE374 := n6_; have NB370_374 := n7_; have NB374_370 := n8_; have NB0_374 := n9_; have NB374_0 := n10_; clear n0_ n1_ n2_ n3_ n4_ n5_ n6_ n7_ n8_ n9_ n10_; clear hb hbox hg; obtain ⟨_, _, _, _⟩ := sqN2 NB374_370 NB374_0; obtain ⟨_, _, _, _⟩ := sqc2 BK374) | ((with_reducible refine gate_callee (f := 109) rfl ?_); refine sqL (some 7) Try.func109 #[.pointer (some ⟨g, 0, none⟩), .int .i64 2] ?_; (with_reducible refine (spec_l1Rd_pick.calls k g s0_0 t373 2 t375 t376 w0 _ ?side1 ?side2 A3.out).mono ?_); (case side1 => exact IsS161.mv HI0); (case side2 => exact sqB2 HB (IsS161.ge HI0.out)); rintro e w13 ⟨rfl, hi, hb, hk⟩; refine ⟨_, rfl, ?_⟩; replace BK370 := Aside0.mk (KeepBut.blk hk (g' := gb370) (o := .cells #[.int .i64 0, .int .i64 0, .int .i64 0, .int .i64 0] 30 (0, 0)) (sqT BK370) NB370_0.out (by simp)); replace BK374 := Aside0.mk (KeepBut.blk hk (g' := gb374) (o := .cells #[.int .i64 t371, .int .i64 t372] 24 (0, 0)) (sqP BK374) NB374_0.out (by simp)); replace HK := Aside0.mk (KeepBut.trans (sqK HK) hk (.inl rfl)); replace HB := Aside0.mk (hb); replace HI0 := Aside0.mk (hi); (try clear hb); (try clear hb2); (try clear hk); (try clear hi)))
  replace BK370 := sqdr BK370
  replace BK374 := sqdr BK374
  replace HI0 := Aside0.mk (IsS161.drew HI0.out)
  replace HK := sqdK HK
  replace HB := sqdB HB
  refine sqst 4 (fun w' => w'.cell? ⟨gb374, 0, none⟩ = some (.int .i64 t371) ∧ w'.cell? ⟨gb374, 1, none⟩ = some (.int .i64 t372)) sqz (fun hHeld => ?_)
  generalize w13.drew = w14 at BK370 BK374 HI0 HK HB hHeld ⊢
  refine take_ (i := 0) (N := some 9) (v := ?_) (a' := ?_) #[true, false, false, false] rfl rfl (by kernel_rfl) (fun _ _ _ h => h) (Or.inl ⟨by rfl, ?_⟩) hHeld ?_ ?_
  rotate_left
  ·rintro w' ⟨s0, s1⟩
   go_simp
   with_reducible rfl
  rotate_left
  ·simp only [Act.put, List.setIfInBounds_toArray, List.set_cons_zero, List.set_cons_succ, i64_w, i32_w]
   rfl
  refine one_ (i := 1) (N := some 10) #[true, true, false, false] rfl rfl (by kernel_rfl) (by decide) (fun K hK => ?_)
  refine sqG Try.func153 #[] ?_
  with_reducible refine (spec_l9All.calls  t377 t378 _ A5.out).mono ?_
  rintro e w15 ⟨rfl, hb⟩
  refine ⟨_, rfl, ?_⟩
  replace BK370 := sqb BK370 hb
  replace BK374 := sqb BK374 hb
  replace HK := Aside0.mk (KeepBut.trans (sqK HK) (KeepBut.of_below hb g none) (.inl rfl))
  replace HB := Aside0.mk (below_step (sqB2 HB (IsS161.ge HI0.out)) hb)
  replace HI0 := Aside0.mk (IsS161.below (IsS161.mv HI0) hb)
  (try clear hb)
  refine hK.out _ _ sqz (fun hHeld => ?_)
  clear hK K
  refine sqnm ?_
  refine one_ (i := 2) (N := some 11) #[true, true, true, false] rfl rfl (by kernel_rfl) (by decide) (fun K hK => ?_)
  refine sqG Try.func17 #[.agg #[.int .i64 t371, .int .i64 t372], .agg #[.int .i64 t377, .int .i64 t378]] ?_
  with_reducible refine (spec_ValMake.calls k t371 t372 t377 t378 t379 t380 t381 t382 _ A6.out).mono ?_
  rintro e w16 ⟨rfl, hb⟩
  refine ⟨_, rfl, ?_⟩
  replace BK370 := sqb BK370 hb
  replace BK374 := sqb BK374 hb
  replace HK := Aside0.mk (KeepBut.trans (sqK HK) (KeepBut.of_below hb g none) (.inl rfl))
  replace HB := Aside0.mk (below_step (sqB2 HB (IsS161.ge HI0.out)) hb)
  replace HI0 := Aside0.mk (IsS161.below (IsS161.mv HI0) hb)
  (try clear hb)
  refine hK.out _ _ sqz (fun hHeld => ?_)
  clear hK K
  refine sqnm ?_
  refine one_ (i := 3) (N := none) #[true, true, true, true] rfl rfl (by kernel_rfl) (by decide) (fun K hK => ?_)
  have hs17 : w16.cell? ⟨gb370, 0, none⟩ = some (.int .i64 0) := (blk_cell BK370.out 0).trans rfl
  have hfs17 := blk_frozen BK370.out 0
  obtain ⟨_, _⟩ := sqN1 NB374_370
  have hs18 : w16.cell? ⟨gb370, 1, none⟩ = some (.int .i64 0) := (blk_cell BK370.out 1).trans rfl
  have hfs18 := blk_frozen BK370.out 1
  obtain ⟨_, _⟩ := sqN1 NB374_370
  have hs19 : w16.cell? ⟨gb370, 2, none⟩ = some (.int .i64 0) := (blk_cell BK370.out 2).trans rfl
  have hfs19 := blk_frozen BK370.out 2
  obtain ⟨_, _⟩ := sqN1 NB374_370
  have hs20 : w16.cell? ⟨gb370, 3, none⟩ = some (.int .i64 0) := (blk_cell BK370.out 3).trans rfl
  have hfs20 := blk_frozen BK370.out 3
  obtain ⟨_, _⟩ := sqN1 NB374_370
  refine skip_ (w1 := ?_) (by rfl) rfl ?_ ?_
  rotate_left
  ·go_simp
   rfl
  refine hK.out _ _ ⟨(sqfa NB374_370 ((sqfa NB374_370 ((sqfa NB374_370 ((sqfa NB374_370 (hHeld.1)))))))), (sqfa NB374_370 ((sqfa NB374_370 ((sqfa NB374_370 ((sqfa NB374_370 (hHeld.2))))))))⟩ (fun hHeld => ?_)
  clear hK K
  refine done_ (by kernel_rfl) ?_
  try go_wp2
  refine bodyPost_ret (results_cell_row rfl _ _ gb370 30 #[.int .i64 t379, .int .i64 t380, .int .i64 t381, .int .i64 t382] (0, 0) _ rfl (sqP BK370) Try.underlying30 rfl (by kernel_rfl)) rfl ?_
  exact ⟨by first | rfl | (simp [errW_none, errW_some] <;> rfl) | (simp [*, errW_none, errW_some] <;> rfl), by repeat (first | (with_reducible first | exact HI0.out | apply IsS161.alloc | apply IsS161.drewN | apply IsS161.drew | apply IsS161.set_1 | refine IsS161.far ?_ NB0_370.out _ | refine IsS161.far ?_ NB0_374.out _) | exact HI0.out), by repeat (first | (with_reducible first | exact HB.out | apply below_alloc | apply pw_below_drewN | apply below_drew1 | refine below_set ?_ (IsS161.ge HI0.out) | refine below_set ?_ GE370.out | refine below_set ?_ GE374.out) | exact HB.out), sqK HK⟩
 have c4b0 : (t375 == 0) = false := beq_eq_false_iff_ne.mpr c4
 have c4b1 : (t375 != 0) = true := bne_iff_ne.mpr c4
 replace H := sqbi H
 obtain ⟨⟨t383, t384, t385⟩, A21, H⟩ := H
 try dsimp only at H
 replace H := sqbi H
 obtain ⟨⟨t386, t387, t388, t389⟩, A22, H⟩ := H
 try dsimp only at H
 simp only [Option.some.injEq, Prod.mk.injEq] at H
 obtain ⟨rfl, rfl, rfl, rfl, rfl⟩ := H
 go_enter Try.func221, Try.ntmps221
 try go_wp2_with (first | ((with_reducible refine gate_dst (N := 2) rfl ?_); refine sqx 2 #[.int .i64 0, .int .i64 0, .int .i64 0, .int .i64 0] 30 ?_; intro gb370 hg w23 hbox hb; have n0_ := Aside0.mk (IsS161.below (IsS161.mv HI0) hb); have n1_ := Aside0.mk (KeepBut.trans (sqK HK) (KeepBut.of_below hb g none) (.inl rfl)); have n2_ := Aside0.mk (below_step (sqB2 HB (IsS161.ge HI0.out)) hb); have n3_ := Aside0.mk (hbox); have n4_ := Aside0.mk ((by rw [hg]; exact (keep_size (w := w) (g := g) (row := none) (sqK HK)) : w.heap.size ≤ gb370)); have n5_ := Aside0.mk ((Nat.le_trans HW0.out (by rw [hg]; exact (keep_size (w := w) (g := g) (row := none) (sqK HK)) : w.heap.size ≤ gb370) : w0.heap.size ≤ gb370)); have n6_ := Aside0.mk ((by rw [hg]; exact Nat.ne_of_lt (IsS161.lt (show IsS161 w0 _ g s0_0 s0_1 from by repeat (first | (with_reducible first | exact HI0.out | apply IsS161.alloc | apply IsS161.drewN | apply IsS161.drew | apply IsS161.set_1) | exact HI0.out))) : g ≠ gb370)); have n7_ := Aside0.mk ((by rw [hg]; exact Nat.ne_of_gt (IsS161.lt (show IsS161 w0 _ g s0_0 s0_1 from by repeat (first | (with_reducible first | exact HI0.out | apply IsS161.alloc | apply IsS161.drewN | apply IsS161.drew | apply IsS161.set_1) | exact HI0.out))) : gb370 ≠ g)); clear HI0; clear HK; clear HB; have HI0 := n0_; have HK := n1_; have HB := n2_; have BK370 := n3_; have GW370 := n4_; have GE370 := n5_; have NB0_370 := n6_; have NB370_0 := n7_; clear n0_ n1_ n2_ n3_ n4_ n5_ n6_ n7_; clear hb hbox hg) | ((with_reducible refine gate_callee (f := 193) rfl ?_); refine sqL (some 5) Try.func193 #[.pointer (some ⟨g, 0, none⟩)] ?_; (with_reducible refine (spec_l8Range.calls k g s0_0 s0_1 t371 t372 t373 w0 _ ?side1 ?side2 A2.out).mono ?_); (case side1 => exact IsS161.mv HI0); (case side2 => exact sqB2 HB (IsS161.ge HI0.out)); rintro e w24 ⟨rfl, hi, hb, hk⟩; refine ⟨_, rfl, ?_⟩; replace BK370 := sqkb hk BK370 NB370_0; replace HK := Aside0.mk (KeepBut.trans (sqK HK) hk (.inl rfl)); replace HB := Aside0.mk (hb); replace HI0 := Aside0.mk (hi); (try clear hb); (try clear hb2); (try clear hk); (try clear hi)) | ((with_reducible refine gate_dst (N := 3) rfl ?_); refine sqx 3 #[.int .i64 0, .int .i64 0] 24 ?_; intro gb374 hg w25 hbox hb; have n0_ := Aside0.mk (IsS161.below (IsS161.mv HI0) hb); have n1_ := sqb BK370 hb; have n2_ := Aside0.mk (KeepBut.trans (sqK HK) (KeepBut.of_below hb g none) (.inl rfl)); have n3_ := Aside0.mk (below_step (sqB2 HB (IsS161.ge HI0.out)) hb); have n4_ := Aside0.mk (hbox); have n5_ := Aside0.mk ((by rw [hg]; exact (keep_size (w := w) (g := g) (row := none) (sqK HK)) : w.heap.size ≤ gb374)); have n6_ := Aside0.mk ((Nat.le_trans HW0.out (by rw [hg]; exact (keep_size (w := w) (g := g) (row := none) (sqK HK)) : w.heap.size ≤ gb374) : w0.heap.size ≤ gb374)); have n7_ := sqn BK370 hg; have n8_ := sqm BK370 hg; have n9_ := Aside0.mk ((by rw [hg]; exact Nat.ne_of_lt (IsS161.lt (show IsS161 w0 _ g s0_0 t373 from by repeat (first | (with_reducible first | exact HI0.out | apply IsS161.alloc | apply IsS161.drewN | apply IsS161.drew | apply IsS161.set_1 | refine IsS161.far ?_ NB0_370.out _) | exact HI0.out))) : g ≠ gb374)); have n10_ := Aside0.mk ((by rw [hg]; exact Nat.ne_of_gt (IsS161.lt (show IsS161 w0 _ g s0_0 t373 from by repeat (first | (with_reducible first | exact HI0.out | apply IsS161.alloc | apply IsS161.drewN | apply IsS161.drew | apply IsS161.set_1 | refine IsS161.far ?_ NB0_370.out _) | exact HI0.out))) : gb374 ≠ g)); clear HI0; clear BK370; clear HK; clear HB; have HI0 := n0_; have BK370 := n1_; have HK := n2_; have HB := n3_; have BK374 := n4_; have GW374 := n5_; have GE374 := n6_; have NB370_374 := n7_; have NB374_370 := n8_; have NB0_374 := n9_; have NB374_0 := n10_; clear n0_ n1_ n2_ n3_ n4_ n5_ n6_ n7_ n8_ n9_ n10_; clear hb hbox hg; obtain ⟨_, _, _, _⟩ := sqN2 NB374_370 NB374_0; obtain ⟨_, _, _, _⟩ := sqc2 BK374) | ((with_reducible refine gate_callee (f := 109) rfl ?_); refine sqL (some 7) Try.func109 #[.pointer (some ⟨g, 0, none⟩), .int .i64 2] ?_; (with_reducible refine (spec_l1Rd_pick.calls k g s0_0 t373 2 t375 t376 w0 _ ?side1 ?side2 A3.out).mono ?_); (case side1 => exact IsS161.mv HI0); (case side2 => exact sqB2 HB (IsS161.ge HI0.out)); rintro e w29 ⟨rfl, hi, hb, hk⟩; refine ⟨_, rfl, ?_⟩; replace BK370 := Aside0.mk (KeepBut.blk hk (g' := gb370) (o := .cells #[.int .i64 0, .int .i64 0, .int .i64 0, .int .i64 0] 30 (0, 0)) (sqT BK370) NB370_0.out (by simp)); replace BK374 := Aside0.mk (KeepBut.blk hk (g' := gb374) (o := .cells #[.int .i64 t371, .int .i64 t372] 24 (0, 0)) (sqP BK374) NB374_0.out (by simp)); replace HK := Aside0.mk (KeepBut.trans (sqK HK) hk (.inl rfl)); replace HB := Aside0.mk (hb); replace HI0 := Aside0.mk (hi); (try clear hb); (try clear hb2); (try clear hk); (try clear hi)))
 replace BK370 := sqdr BK370
 replace BK374 := sqdr BK374
 replace HI0 := Aside0.mk (IsS161.drew HI0.out)
 replace HK := sqdK HK
 replace HB := sqdB HB
 refine sqst 5 (fun w' => w'.cell? ⟨gb374, 0, none⟩ = some (.int .i64 t371) ∧ w'.cell? ⟨gb374, 1, none⟩ = some (.int .i64 t372)) sqz (fun hHeld => ?_)
 generalize w29.drew = w30 at BK370 BK374 HI0 HK HB hHeld ⊢
 refine pure_ (i := 1) (N := some 13) (v := ?_) (a' := ?_) #[false, true, false, false, false] rfl rfl (by kernel_rfl) (fun _ _ _ h => h) (Or.inl ⟨by rfl, ?_⟩) ?_ ?_
 rotate_left
 ·intro w'
  go_simp
  with_reducible rfl
 rotate_left
 ·simp only [Act.put, List.setIfInBounds_toArray, List.set_cons_zero, List.set_cons_succ, i64_w, i32_w]
  rfl
 refine take_ (i := 0) (N := some 12) (v := ?_) (a' := ?_) #[true, true, false, false, false] rfl rfl (by kernel_rfl) (fun _ _ _ h => h) (Or.inl ⟨by rfl, ?_⟩) hHeld ?_ ?_
 rotate_left
 ·rintro w' ⟨s0, s1⟩
  go_simp
  with_reducible rfl
 rotate_left
 ·simp only [Act.put, List.setIfInBounds_toArray, List.set_cons_zero, List.set_cons_succ, i64_w, i32_w]
  rfl
 refine one_ (i := 2) (N := some 14) #[true, true, true, false, false] rfl rfl (by kernel_rfl) (by decide) (fun K hK => ?_)
 refine sqG Try.func194 #[.pointer (some ⟨g, 0, none⟩)] ?_
 with_reducible refine (spec_l9Rest.calls k g s0_0 t376 t383 t384 t385 w0 _ ?side1 ?side2 A21.out).mono ?_
 (case side1 => exact IsS161.mv HI0)
 (case side2 => exact sqB2 HB (IsS161.ge HI0.out))
 rintro e w31 ⟨rfl, hi, hb, hk⟩
 refine ⟨_, rfl, ?_⟩
 replace BK370 := sqkb hk BK370 NB370_0
 replace BK374 := sqkb hk BK374 NB374_0
 replace HK := Aside0.mk (KeepBut.trans (sqK HK) hk (.inl rfl))
 replace HB := Aside0.mk (hb)
 replace HI0 := Aside0.mk (hi)
 (try clear hb)
 (try clear hb2)
 (try clear hk)
 (try clear hi)
 refine hK.out _ _ sqz (fun hHeld => ?_)
 clear hK K
 refine sqnm ?_
 refine one_ (i := 3) (N := some 15) #[true, true, true, true, false] rfl rfl (by kernel_rfl) (by decide) (fun K hK => ?_)
 refine sqG Try.func17 #[.agg #[.int .i64 t371, .int .i64 t372], .agg #[.int .i64 t383, .int .i64 t384]] ?_
 with_reducible refine (spec_ValMake.calls k t371 t372 t383 t384 t386 t387 t388 t389 _ A22.out).mono ?_
 rintro e w32 ⟨rfl, hb⟩
 refine ⟨_, rfl, ?_⟩
 replace BK370 := sqb BK370 hb
 replace BK374 := sqb BK374 hb
 replace HK := Aside0.mk (KeepBut.trans (sqK HK) (KeepBut.of_below hb g none) (.inl rfl))
 replace HB := Aside0.mk (below_step (sqB2 HB (IsS161.ge HI0.out)) hb)
 replace HI0 := Aside0.mk (IsS161.below (IsS161.mv HI0) hb)
 (try clear hb)
 refine hK.out _ _ sqz (fun hHeld => ?_)
 clear hK K
 refine sqnm ?_
 refine one_ (i := 4) (N := none) #[true, true, true, true, true] rfl rfl (by kernel_rfl) (by decide) (fun K hK => ?_)
 have hs33 : w32.cell? ⟨gb370, 0, none⟩ = some (.int .i64 0) := (blk_cell BK370.out 0).trans rfl
 have hfs33 := blk_frozen BK370.out 0
 obtain ⟨_, _⟩ := sqN1 NB374_370
 have hs34 : w32.cell? ⟨gb370, 1, none⟩ = some (.int .i64 0) := (blk_cell BK370.out 1).trans rfl
 have hfs34 := blk_frozen BK370.out 1
 obtain ⟨_, _⟩ := sqN1 NB374_370
 have hs35 : w32.cell? ⟨gb370, 2, none⟩ = some (.int .i64 0) := (blk_cell BK370.out 2).trans rfl
 have hfs35 := blk_frozen BK370.out 2
 obtain ⟨_, _⟩ := sqN1 NB374_370
 have hs36 : w32.cell? ⟨gb370, 3, none⟩ = some (.int .i64 0) := (blk_cell BK370.out 3).trans rfl
 have hfs36 := blk_frozen BK370.out 3
 obtain ⟨_, _⟩ := sqN1 NB374_370
 refine skip_ (w1 := ?_) (by rfl) rfl ?_ ?_
 rotate_left
 ·go_simp
  rfl
 refine hK.out _ _ ⟨(sqfa NB374_370 ((sqfa NB374_370 ((sqfa NB374_370 ((sqfa NB374_370 (hHeld.1)))))))), (sqfa NB374_370 ((sqfa NB374_370 ((sqfa NB374_370 ((sqfa NB374_370 (hHeld.2))))))))⟩ (fun hHeld => ?_)
 clear hK K
 refine done_ (by kernel_rfl) ?_
 try go_wp2
 refine bodyPost_ret (results_cell_row rfl _ _ gb370 30 #[.int .i64 t386, .int .i64 t387, .int .i64 t388, .int .i64 t389] (0, 0) _ rfl (sqP BK370) Try.underlying30 rfl (by kernel_rfl)) rfl ?_
 exact ⟨by first | rfl | (simp [errW_none, errW_some] <;> rfl) | (simp [*, errW_none, errW_some] <;> rfl), by repeat (first | (with_reducible first | exact HI0.out | apply IsS161.alloc | apply IsS161.drewN | apply IsS161.drew | apply IsS161.set_1 | refine IsS161.far ?_ NB0_370.out _ | refine IsS161.far ?_ NB0_374.out _) | exact HI0.out), by repeat (first | (with_reducible first | exact HB.out | apply below_alloc | apply pw_below_drewN | apply below_drew1 | refine below_set ?_ (IsS161.ge HI0.out) | refine below_set ?_ GE370.out | refine below_set ?_ GE374.out) | exact HB.out), sqK HK⟩

/-! ### spec_l10Wild: function 216 -/
set_option maxHeartbeats 8000000 in
set_option maxRecDepth 100000 in
theorem spec_l10Wild.calls (k : Nat) (g : Nat) (s0_0 : List Int) (s0_1 : Int) (r1 : Int) (r2 : Int) (r3 : Int) (r4 : Int) (r5 : Int) (w0 w : World) (hI : IsS161 w0 w g s0_0 s0_1) (hB : Below w0.heap.size w0 w) (h : spec_l10Wild.f k s0_0 s0_1 = some (r1, r2, r3, r4, r5)) :
  Calls Try.prog 216 #[.pointer (some ⟨g, 0, none⟩)] w fun e w' => e = .returned (.agg #[.int .i64 r1, .int .i64 r2, .int .i64 r3, .int .i64 r4]) ∧ IsS161 w0 w' g s0_0 r5 ∧ Below w0.heap.size w0 w' ∧ KeepBut w w' g none := by
 have hu30 := Try.underlying30
 have HI0 := Aside0.mk hI
 have HK := Aside0.mk (KeepBut.refl w g none)
 have HL := Aside0.mk hB.size
 clear hI
 have HW0 := Aside0.mk hB.size
 have HB := Aside0.mk hB
 clear hB
 have H := h
 unfold spec_l10Wild.f at H
 clear h
 replace H := sqbi H
 obtain ⟨⟨t391, t392, t393, t394, t395⟩, A2, H⟩ := H
 try dsimp only at H
 replace H := sqbi H
 obtain ⟨⟨t397, t398⟩, A3, H⟩ := H
 try dsimp only at H
 have HC4 := Aside0.mk H
 clear H
 go_enter Try.func216, Try.ntmps216
 go_upto_if 10 with (first | ((with_reducible refine gate_dst (N := 2) rfl ?_); refine sqx 2 #[.int .i64 0, .int .i64 0, .int .i64 0, .int .i64 0] 30 ?_; intro gb390 hg w5 hbox hb; have n0_ := Aside0.mk (IsS161.below (IsS161.mv HI0) hb); have n1_ := Aside0.mk (KeepBut.trans (sqK HK) (KeepBut.of_below hb g none) (.inl rfl)); have n2_ := Aside0.mk (below_step (sqB2 HB (IsS161.ge HI0.out)) hb); have n3_ := Aside0.mk (hbox); have n4_ := Aside0.mk ((by rw [hg]; exact (keep_size (w := w) (g := g) (row := none) (sqK HK)) : w.heap.size ≤ gb390)); have n5_ := Aside0.mk ((Nat.le_trans HW0.out (by rw [hg]; exact (keep_size (w := w) (g := g) (row := none) (sqK HK)) : w.heap.size ≤ gb390) : w0.heap.size ≤ gb390)); have n6_ := Aside0.mk ((by rw [hg]; exact Nat.ne_of_lt (IsS161.lt (show IsS161 w0 _ g s0_0 s0_1 from by repeat (first | (with_reducible first | exact HI0.out | apply IsS161.alloc | apply IsS161.drewN | apply IsS161.drew | apply IsS161.set_1) | exact HI0.out))) : g ≠ gb390)); have n7_ := Aside0.mk ((by rw [hg]; exact Nat.ne_of_gt (IsS161.lt (show IsS161 w0 _ g s0_0 s0_1 from by repeat (first | (with_reducible first | exact HI0.out | apply IsS161.alloc | apply IsS161.drewN | apply IsS161.drew | apply IsS161.set_1) | exact HI0.out))) : gb390 ≠ g)); clear HI0; clear HK; clear HB; have HI0 := n0_; have HK := n1_; have HB := n2_; have BK390 := n3_; have GW390 := n4_; have GE390 := n5_; have NB0_390 := n6_; have NB390_0 := n7_; clear n0_ n1_ n2_ n3_ n4_ n5_ n6_ n7_; clear hb hbox hg) | ((with_reducible refine gate_callee (f := 221) rfl ?_); refine sqL (some 6) Try.func221 #[.pointer (some ⟨g, 0, none⟩)] ?_; (with_reducible refine (spec_l10Val.calls k g s0_0 s0_1 t391 t392 t393 t394 t395 w0 _ ?side1 ?side2 A2.out).mono ?_); (case side1 => exact IsS161.mv HI0); (case side2 => exact sqB2 HB (IsS161.ge HI0.out)); rintro e w6 ⟨rfl, hi, hb, hk⟩; refine ⟨_, rfl, ?_⟩; replace BK390 := sqkb hk BK390 NB390_0; replace HK := Aside0.mk (KeepBut.trans (sqK HK) hk (.inl rfl)); replace HB := Aside0.mk (hb); replace HI0 := Aside0.mk (hi); (try clear hb); (try clear hb2); (try clear hk); (try clear hi)) | ((with_reducible refine gate_dst (N := 3) rfl ?_); refine sqx 3 #[.int .i64 0, .int .i64 0, .int .i64 0, .int .i64 0] 30 ?_; intro gb396 hg w7 hbox hb; have n0_ := Aside0.mk (IsS161.below (IsS161.mv HI0) hb); have n1_ := sqb BK390 hb; have n2_ := Aside0.mk (KeepBut.trans (sqK HK) (KeepBut.of_below hb g none) (.inl rfl)); have n3_ := Aside0.mk (below_step (sqB2 HB (IsS161.ge HI0.out)) hb); have n4_ := Aside0.mk (hbox); have n5_ := Aside0.mk ((by rw [hg]; exact (keep_size (w := w) (g := g) (row := none) (sqK HK)) : w.heap.size ≤ gb396)); have n6_ := Aside0.mk ((Nat.le_trans HW0.out (by rw [hg]; exact (keep_size (w := w) (g := g) (row := none) (sqK HK)) : w.heap.size ≤ gb396) : w0.heap.size ≤ gb396)); have n7_ := sqn BK390 hg; have n8_ := sqm BK390 hg; have n9_ := Aside0.mk ((by rw [hg]; exact Nat.ne_of_lt (IsS161.lt (show IsS161 w0 _ g s0_0 t395 from by repeat (first | (with_reducible first | exact HI0.out | apply IsS161.alloc | apply IsS161.drewN | apply IsS161.drew | apply IsS161.set_1 | refine IsS161.far ?_ NB0_390.out _) | exact HI0.out))) : g ≠ gb396)); have n10_ := Aside0.mk ((by rw [hg]; exact Nat.ne_of_gt (IsS161.lt (show IsS161 w0 _ g s0_0 t395 from by repeat (first | (with_reducible first | exact HI0.out | apply IsS161.alloc | apply IsS161.drewN | apply IsS161.drew | apply IsS161.set_1 | refine IsS161.far ?_ NB0_390.out _) | exact HI0.out))) : gb396 ≠ g)); clear HI0; clear BK390; clear HK; clear HB; have HI0 := n0_; have BK390 := n1_; have HK := n2_; have HB := n3_; have BK396 := n4_; have GW396 := n5_; have GE396 := n6_; have NB390_396 := n7_; have NB396_390 := n8_; have NB0_396 := n9_; have NB396_0 := n10_; clear n0_ n1_ n2_ n3_ n4_ n5_ n6_ n7_ n8_ n9_ n10_; clear hb hbox hg; obtain ⟨_, _, _, _⟩ := sqN2 NB396_390 NB396_0; obtain ⟨_, _, _, _, _, _, _, _⟩ := sqc4 BK396) | ((with_reducible refine gate_callee (f := 109) rfl ?_); refine sqL (some 8) Try.func109 #[.pointer (some ⟨g, 0, none⟩), .int .i64 40] ?_; (with_reducible refine (spec_l1Rd_pick.calls k g s0_0 t395 40 t397 t398 w0 _ ?side1 ?side2 A3.out).mono ?_); (case side1 => exact IsS161.mv HI0); (case side2 => exact sqB2 HB (IsS161.ge HI0.out)); rintro e w11 ⟨rfl, hi, hb, hk⟩; refine ⟨_, rfl, ?_⟩; replace BK390 := Aside0.mk (KeepBut.blk hk (g' := gb390) (o := .cells #[.int .i64 0, .int .i64 0, .int .i64 0, .int .i64 0] 30 (0, 0)) (sqT BK390) NB390_0.out (by simp)); replace BK396 := Aside0.mk (KeepBut.blk hk (g' := gb396) (o := .cells #[.int .i64 t391, .int .i64 t392, .int .i64 t393, .int .i64 t394] 30 (0, 0)) (sqP BK396) NB396_0.out (by simp)); replace HK := Aside0.mk (KeepBut.trans (sqK HK) hk (.inl rfl)); replace HB := Aside0.mk (hb); replace HI0 := Aside0.mk (hi); (try clear hb); (try clear hb2); (try clear hk); (try clear hi)))
 (try simp only [Act.put, List.setIfInBounds_toArray, List.set_cons_zero, List.set_cons_succ])
 go_cut [] (fun wc => ∃ (kq : Nat) (x1001_3 : Int) (x397000_3 : Int), Aside0 (spec_l10Wild.j0 kq t397 s0_0 x1001_3 x397000_3 t392 t393 t394 = some (r1, r2, r3, r4, r5)) ∧ Aside0 (kq ≤ k) ∧ Aside0 (wc.heap[gb390]? = some (.cells #[.int .i64 0, .int .i64 0, .int .i64 0, .int .i64 0] 30 (0, 0))) ∧ Aside0 (wc.heap[gb396]? = some (.cells #[.int .i64 x397000_3, .int .i64 t392, .int .i64 t393, .int .i64 t394] 30 (0, 0))) ∧ Aside0 (IsS161 w0 wc g s0_0 x1001_3) ∧ Aside0 (KeepBut w wc g none) ∧ Aside0 (Below w0.heap.size w0 wc))
 case first =>
  have H := HC4.out
  clear HC4
  replace H := sqi H
  rcases H with ⟨c12, H⟩ | ⟨c12, H⟩
  ·have c12b0 : (t397 == 0) = false := beq_eq_false_iff_ne.mpr c12
   have c12b1 : (t397 != 0) = true := bne_iff_ne.mpr c12
   (first | rw [c12b0] | (simp only [i64_w, i32_w]; rw [c12b0]) | skip)
   have H' := Aside0.mk H
   clear H
   go_wp2
   go_meet
   case rel => exact ⟨_, (t398), (t391), H', ⟨by first | omega | exact Nat.le_refl _⟩, sqk BK390, sqk BK396, ⟨IsS161.mv HI0⟩, ⟨sqK HK⟩, ⟨sqB2 HB (IsS161.ge HI0.out)⟩⟩
  have c12b0 : (t397 == 0) = true := beq_iff_eq.mpr c12
  have c12b1 : (t397 != 0) = false := bne_eq_false_iff_eq.mpr c12
  clear c12
  (first | rw [c12b0] | (simp only [i64_w, i32_w]; rw [c12b0]) | skip)
  replace H := sqbi H
  obtain ⟨⟨t399, t400⟩, A13, H⟩ := H
  try dsimp only at H
  have H' := Aside0.mk H
  clear H
  go_wp2_with (first | ((with_reducible refine gate_callee (f := 195) rfl ?_); refine sqL (some 12) Try.func195 #[.pointer (some ⟨g, 0, none⟩)] ?_; (with_reducible refine (spec_l1Rd_num.calls k g s0_0 t398 t399 t400 w0 _ ?side1 ?side2 A13.out).mono ?_); (case side1 => exact IsS161.mv HI0); (case side2 => exact sqB2 HB (IsS161.ge HI0.out)); rintro e w14 ⟨rfl, hi, hb, hk⟩; refine ⟨_, rfl, ?_⟩; replace BK390 := sqkb hk BK390 NB390_0; replace BK396 := sqkb hk BK396 NB396_0; replace HK := Aside0.mk (KeepBut.trans (sqK HK) hk (.inl rfl)); replace HB := Aside0.mk (hb); replace HI0 := Aside0.mk (hi); (try clear hb); (try clear hb2); (try clear hk); (try clear hi); obtain ⟨_, _, _, _⟩ := sqN2 NB396_390 NB396_0; obtain ⟨_, _, _, _, _, _, _, _⟩ := sqc4 BK396))
  go_meet
  case rel => exact ⟨_, (t400), (t399), H', ⟨by first | omega | exact Nat.le_refl _⟩, ⟨sqT BK390⟩, ⟨sqP BK396⟩, ⟨IsS161.mv HI0⟩, ⟨sqK HK⟩, ⟨sqB2 HB (IsS161.ge HI0.out)⟩⟩
 case rest =>
  clear HC4
  obtain ⟨kq, x1001_3, x397000_3, HA, HJ3, BK390, BK396, HI0, HK, HB⟩ := hcut
  cases kq with
  | zero => exact absurd HA.out (by simp [spec_l10Wild.j0])
  | succ kj3 =>
   have H := HA.out
   clear HA
   simp only [spec_l10Wild.j0] at H
   replace H := sqj H
   rcases H with ⟨c18, H⟩ | ⟨c18, H⟩
   ·have c18b0 : (t397 == 1) = true := beq_iff_eq.mpr c18
    have c18b1 : (t397 != 1) = false := bne_eq_false_iff_eq.mpr c18
    clear c18
    replace H := sqbi H
    obtain ⟨⟨t401, t402⟩, A19, H⟩ := H
    try dsimp only at H
    replace H := sqj H
    rcases H with ⟨c20, H⟩ | ⟨c20, H⟩
    ·have c20b0 : (t397 == 2) = true := beq_iff_eq.mpr c20
     exact absurd ((beq_iff_eq.mp c18b0).symm.trans (beq_iff_eq.mp c20b0)) (by decide)
    have c20b0 : (t397 == 2) = false := beq_eq_false_iff_ne.mpr c20
    have c20b1 : (t397 != 2) = true := bne_iff_ne.mpr c20
    simp only [Option.some.injEq, Prod.mk.injEq] at H
    obtain ⟨rfl, rfl, rfl, rfl, rfl⟩ := H
    go_wp2_with (first | ((with_reducible refine gate_callee (f := 109) rfl ?_); refine sqL (some 17) Try.func109 #[.pointer (some ⟨g, 0, none⟩), .int .i64 5] ?_; (with_reducible refine (spec_l1Rd_pick.calls kj3 g s0_0 x1001_3 5 t401 t402 w0 _ ?side1 ?side2 A19.out).mono ?_); (case side1 => exact IsS161.mv HI0); (case side2 => exact sqB2 HB (IsS161.ge HI0.out)); rintro e w30 ⟨rfl, hi, hb, hk⟩; refine ⟨_, rfl, ?_⟩; replace BK390 := sqkb hk BK390 NB390_0; replace BK396 := sqkb hk BK396 NB396_0; replace HK := Aside0.mk (KeepBut.trans (sqK HK) hk (.inl rfl)); replace HB := Aside0.mk (hb); replace HI0 := Aside0.mk (hi); (try clear hb); (try clear hb2); (try clear hk); (try clear hi); obtain ⟨_, _, _, _⟩ := sqN2 NB396_390 NB396_0; obtain ⟨_, _, _, _, _, _, _, _⟩ := sqc4 BK396; obtain ⟨_, _⟩ := sqN1 NB390_0; obtain ⟨_, _, _, _, _, _, _, _⟩ := sqc4 BK390))
    refine bodyPost_ret (results_cell_row rfl _ _ gb390 30 #[.int .i64 x397000_3, .int .i64 t392, .int .i64 (wrap64 (t401 - 1)), .int .i64 t394] (0, 0) _ rfl (sqP BK390) Try.underlying30 rfl (by kernel_rfl)) rfl ?_
    exact ⟨by first | rfl | (simp [errW_none, errW_some] <;> rfl) | (simp [*, errW_none, errW_some] <;> rfl), by repeat (first | (with_reducible first | exact HI0.out | apply IsS161.alloc | apply IsS161.drewN | apply IsS161.drew | apply IsS161.set_1 | refine IsS161.far ?_ NB0_390.out _ | refine IsS161.far ?_ NB0_396.out _) | exact HI0.out), by repeat (first | (with_reducible first | exact HB.out | apply below_alloc | apply pw_below_drewN | apply below_drew1 | refine below_set ?_ (IsS161.ge HI0.out) | refine below_set ?_ GE390.out | refine below_set ?_ GE396.out) | exact HB.out), sqK HK⟩
   have c18b0 : (t397 == 1) = false := beq_eq_false_iff_ne.mpr c18
   have c18b1 : (t397 != 1) = true := bne_iff_ne.mpr c18
   replace H := sqi H
   rcases H with ⟨c36, H⟩ | ⟨c36, H⟩
   ·have c36b0 : (t397 == 2) = false := beq_eq_false_iff_ne.mpr c36
    have c36b1 : (t397 != 2) = true := bne_iff_ne.mpr c36
    simp only [Option.some.injEq, Prod.mk.injEq] at H
    obtain ⟨rfl, rfl, rfl, rfl, rfl⟩ := H
    obtain ⟨_, _, _, _⟩ := sqN2 NB396_390 NB396_0
    obtain ⟨_, _, _, _, _, _, _, _⟩ := sqc4 BK396
    obtain ⟨_, _⟩ := sqN1 NB390_0
    obtain ⟨_, _, _, _, _, _, _, _⟩ := sqc4 BK390
    go_wp2
    refine bodyPost_ret (results_cell_row rfl _ _ gb390 30 #[.int .i64 x397000_3, .int .i64 t392, .int .i64 t393, .int .i64 t394] (0, 0) _ rfl (sqP BK390) Try.underlying30 rfl (by kernel_rfl)) rfl ?_
    exact ⟨by first | rfl | (simp [errW_none, errW_some] <;> rfl) | (simp [*, errW_none, errW_some] <;> rfl), by repeat (first | (with_reducible first | exact HI0.out | apply IsS161.alloc | apply IsS161.drewN | apply IsS161.drew | apply IsS161.set_1 | refine IsS161.far ?_ NB0_390.out _ | refine IsS161.far ?_ NB0_396.out _) | exact HI0.out), by repeat (first | (with_reducible first | exact HB.out | apply below_alloc | apply pw_below_drewN | apply below_drew1 | refine below_set ?_ (IsS161.ge HI0.out) | refine below_set ?_ GE390.out | refine below_set ?_ GE396.out) | exact HB.out), sqK HK⟩
   have c36b0 : (t397 == 2) = true := beq_iff_eq.mpr c36
   have c36b1 : (t397 != 2) = false := bne_eq_false_iff_eq.mpr c36
   clear c36
   replace H := sqbi H
   obtain ⟨⟨t405, t406⟩, A37, H⟩ := H
   try dsimp only at H
   simp only [Option.some.injEq, Prod.mk.injEq] at H
   obtain ⟨rfl, rfl, rfl, rfl, rfl⟩ := H
   go_wp2_with (first | ((with_reducible refine gate_callee (f := 109) rfl ?_); refine sqL (some 23) Try.func109 #[.pointer (some ⟨g, 0, none⟩), .int .i64 5] ?_; (with_reducible refine (spec_l1Rd_pick.calls kj3 g s0_0 x1001_3 5 t405 t406 w0 _ ?side1 ?side2 A37.out).mono ?_); (case side1 => exact IsS161.mv HI0); (case side2 => exact sqB2 HB (IsS161.ge HI0.out)); rintro e w38 ⟨rfl, hi, hb, hk⟩; refine ⟨_, rfl, ?_⟩; replace BK390 := sqkb hk BK390 NB390_0; replace BK396 := sqkb hk BK396 NB396_0; replace HK := Aside0.mk (KeepBut.trans (sqK HK) hk (.inl rfl)); replace HB := Aside0.mk (hb); replace HI0 := Aside0.mk (hi); (try clear hb); (try clear hb2); (try clear hk); (try clear hi); obtain ⟨_, _, _, _⟩ := sqN2 NB396_390 NB396_0; obtain ⟨_, _, _, _, _, _, _, _⟩ := sqc4 BK396; obtain ⟨_, _⟩ := sqN1 NB390_0; obtain ⟨_, _, _, _, _, _, _, _⟩ := sqc4 BK390))
   refine bodyPost_ret (results_cell_row rfl _ _ gb390 30 #[.int .i64 x397000_3, .int .i64 t392, .int .i64 t393, .int .i64 (wrap64 (t405 - 1))] (0, 0) _ rfl (sqP BK390) Try.underlying30 rfl (by kernel_rfl)) rfl ?_
   exact ⟨by first | rfl | (simp [errW_none, errW_some] <;> rfl) | (simp [*, errW_none, errW_some] <;> rfl), by repeat (first | (with_reducible first | exact HI0.out | apply IsS161.alloc | apply IsS161.drewN | apply IsS161.drew | apply IsS161.set_1 | refine IsS161.far ?_ NB0_390.out _ | refine IsS161.far ?_ NB0_396.out _) | exact HI0.out), by repeat (first | (with_reducible first | exact HB.out | apply below_alloc | apply pw_below_drewN | apply below_drew1 | refine below_set ?_ (IsS161.ge HI0.out) | refine below_set ?_ GE390.out | refine below_set ?_ GE396.out) | exact HB.out), sqK HK⟩

end Go.Proofs.Ytkekcenlleebeaa.PFnValLattice
