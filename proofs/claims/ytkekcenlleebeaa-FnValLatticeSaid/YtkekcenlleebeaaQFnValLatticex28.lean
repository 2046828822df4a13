/- Functions of the program as plain Lean functions, and that calls of them come to what these tell. Conditions: those in each law. -/
import Derived.Test.YtkekcenlleebeaaSq
import Derived.Test.YtkekcenlleebeaaDFnValLattice
import Derived.Test.YtkekcenlleebeaaQFnValLatticex0
import Derived.Test.YtkekcenlleebeaaQFnValLatticex7
import Derived.Test.YtkekcenlleebeaaQFnValLatticex8
import Derived.Test.YtkekcenlleebeaaQFnValLatticex16
namespace Go.Proofs.Ytkekcenlleebeaa.PFnValLattice
open Go.RowKit Go.Proofs.Ytkekcenlleebeaa.Sq Go.Proofs.YtkekcenlleebeaaW.PrintWords Go.Proofs.YtkekcenlleebeaaW.PrintLast Go.Proofs.YtkekcenlleebeaaW.PrintMore
attribute [local go_sem] max2_int min2_int max_two min_two max_three min_three max_four min_four   -- for this text's walks alone
set_option linter.unusedVariables false
set_option linter.unusedSimpArgs false

/-! ### spec_l9Gcd: function 156 -/
set_option maxHeartbeats 8000000 in
set_option maxRecDepth 100000 in
theorem spec_l9Gcd.calls (k : Nat) (a0 : Int) (a1 : Int) (r : Int) (w : World) (h : spec_l9Gcd.f k a0 a1 = some r) :
  Calls Try.prog 156 #[.int .i64 a0, .int .i64 a1] w fun e w' => e = .returned (.int .i64 r) ∧ Drawn0 w w' := by
 have H := h
 unfold spec_l9Gcd.f at H
 clear h
 have HC3 := Aside0.mk H
 clear H
 go_enter Try.func156, Try.ntmps156
 go_upto_if 7 with (fail)
 go_cut [0] (fun v0 wc => ∃ (kq : Nat) (x0_2 : Int), v0 = .int .i64 x0_2 ∧ Aside0 (spec_l9Gcd.j0 kq x0_2 a1 = some r) ∧ Aside0 (kq ≤ k) ∧ Drawn0 w wc)
 case first =>
  have H := HC3.out
  clear HC3
  replace H := sqi H
  rcases H with ⟨c4, H⟩ | ⟨c4, H⟩
  ·have c4b0 := decide_eq_false c4
   clear c4
   (first | rw [c4b0] | (simp only [i64_w, i32_w]; rw [c4b0]) | skip)
   have H' := Aside0.mk H
   clear H
   go_wp2
   go_meet
   case rel => exact ⟨_, (a0), (by first | rfl | (simp; done) | (simp [*]; done)), H', ⟨by first | omega | exact Nat.le_refl _⟩, by repeat (first | exact Drawn0.refl _ | apply Drawn0.step)⟩
  have c4b0 := decide_eq_true c4
  clear c4
  (first | rw [c4b0] | (simp only [i64_w, i32_w]; rw [c4b0]) | skip)
  have H' := Aside0.mk H
  clear H
  go_wp2
  go_meet
  case rel => exact ⟨_, (wrap64 (-a0)), (by first | rfl | (simp; done) | (simp [*]; done)), H', ⟨by first | omega | exact Nat.le_refl _⟩, by repeat (first | exact Drawn0.refl _ | apply Drawn0.step)⟩
 case rest =>
  clear HC3
  obtain ⟨kq, x0_2, rfl, HA, HJ2, ⟨mc2, rfl⟩⟩ := hcut
  cases kq with
  | zero => exact absurd HA.out (by simp [spec_l9Gcd.j0])
  | succ kj2 =>
   have H := HA.out
   clear HA
   simp only [spec_l9Gcd.j0] at H
   have HC5 := Aside0.mk H
   clear H
   go_upto_if 11 with (fail)
   go_cut [1] (fun v1 wc => ∃ (kq : Nat) (x1_4 : Int), v1 = .int .i64 x1_4 ∧ Aside0 (spec_l9Gcd.j1 kq x0_2 x1_4 = some r) ∧ Aside0 (kq ≤ kj2) ∧ Drawn0 w wc)
   case first =>
    have H := HC5.out
    clear HC5
    replace H := sqi H
    rcases H with ⟨c6, H⟩ | ⟨c6, H⟩
    ·have c6b0 := decide_eq_false c6
     clear c6
     (first | rw [c6b0] | (simp only [i64_w, i32_w]; rw [c6b0]) | skip)
     have H' := Aside0.mk H
     clear H
     go_wp2
     go_meet
     case rel => exact ⟨_, (a1), (by first | rfl | (simp; done) | (simp [*]; done)), H', ⟨by have := HJ2.out; first | omega | exact Nat.le_refl _⟩, by repeat (first | exact Drawn0.refl _ | apply Drawn0.step)⟩
    have c6b0 := decide_eq_true c6
    clear c6
    (first | rw [c6b0] | (simp only [i64_w, i32_w]; rw [c6b0]) | skip)
    have H' := Aside0.mk H
    clear H
    go_wp2
    go_meet
    case rel => exact ⟨_, (wrap64 (-a1)), (by first | rfl | (simp; done) | (simp [*]; done)), H', ⟨by have := HJ2.out; first | omega | exact Nat.le_refl _⟩, by repeat (first | exact Drawn0.refl _ | apply Drawn0.step)⟩
   case rest =>
    clear HC5
    obtain ⟨kq, x1_4, rfl, HA, HJ4, ⟨mc4, rfl⟩⟩ := hcut
    cases kq with
    | zero => exact absurd HA.out (by simp [spec_l9Gcd.j1])
    | succ kj4 =>
     have H := HA.out
     clear HA
     simp only [spec_l9Gcd.j1] at H
     have H' := Aside0.mk H
     clear H
     go_wp2
     go_loopg [0, 1] kj4 (fun kq v0 v1 w' => ∃ (x0_3 : Int) (x1_3 : Int), v0 = .int .i64 x0_3 ∧ v1 = .int .i64 x1_3 ∧ Aside0 (spec_l9Gcd.l0 kq x0_3 x1_3 = some r) ∧ Aside0 (kq ≤ kj4) ∧ Drawn0 w w')
     case atStart => exact ⟨(x0_2), (x1_4), (by first | rfl | (simp; done) | (simp [*]; done)), (by first | rfl | (simp; done) | (simp [*]; done)), H', ⟨Nat.le_refl _⟩, by repeat (first | exact Drawn0.refl _ | apply Drawn0.step)⟩
     case round =>
      clear H'
      obtain ⟨x0_3, x1_3, rfl, rfl, HA, HK3, ⟨m3, rfl⟩⟩ := hrel
      cases gk with
      | zero => exact absurd HA.out (by simp [spec_l9Gcd.l0])
      | succ k3 =>
       have H := HA.out
       clear HA
       simp only [spec_l9Gcd.l0] at H
       replace H := sqj H
       rcases H with ⟨c7, H⟩ | ⟨c7, H⟩
       ·have c7b0 : (x1_3 == 0) = true := beq_iff_eq.mpr c7
        have c7b1 : (x1_3 != 0) = false := bne_eq_false_iff_eq.mpr c7
        clear c7
        obtain rfl := Option.some.inj H
        go_wp2
        go_ret
        exact ⟨by first | rfl | (simp; done) | (simp [*]; done), by repeat (first | exact Drawn0.refl _ | apply Drawn0.step)⟩
       have c7b0 : (x1_3 == 0) = false := beq_eq_false_iff_ne.mpr c7
       have c7b1 : (x1_3 != 0) = true := bne_iff_ne.mpr c7
       have H' := Aside0.mk H
       clear H
       go_wp2
       go_roundg k3
       case measure => have := HJ2.out; have := HJ4.out; have := HK3.out; omega
       case rel => exact ⟨(x1_3), (Int.tmod x0_3 x1_3), (by first | rfl | (simp; done) | (simp [*]; done)), (by first | rfl | (simp; done) | (simp [*]; done)), H', ⟨by have := HJ2.out; have := HJ4.out; have := HK3.out; omega⟩, by repeat (first | exact Drawn0.refl _ | apply Drawn0.step)⟩

/-! ### spec_l9Make: function 155 -/
set_option maxHeartbeats 8000000 in
set_option maxRecDepth 100000 in
theorem spec_l9Make.calls (k : Nat) (a0 : Int) (a1 : Int) (r1 : Int) (r2 : Int) (w : World) (h : spec_l9Make.f k a0 a1 = some (r1, r2)) :
  Calls Try.prog 155 #[.int .i64 a0, .int .i64 a1] w fun e w' => e = .returned (.agg #[.int .i64 r1, .int .i64 r2]) ∧ Below w.heap.size w w' := by
 have hu26 := Try.underlying26
 have HB := Aside0.mk (Below.refl w.heap.size w)
 have H := h
 unfold spec_l9Make.f at H
 clear h
 replace H := sqi H
 rcases H with ⟨c3, H⟩ | ⟨c3, H⟩
 ·have c3b0 : decide (65536 < a0) = false := decide_eq_false c3
  clear c3
  replace H := sqj H
  rcases H with ⟨c11, H⟩ | ⟨c11, H⟩
  ·have c11b0 : (a0 == 0) = true := beq_iff_eq.mpr c11
   have c11b1 : (a0 != 0) = false := bne_eq_false_iff_eq.mpr c11
   clear c11
   simp only [Option.some.injEq, Prod.mk.injEq] at H
   obtain ⟨rfl, rfl⟩ := H
   go_enter Try.func155, Try.ntmps155
   go_wp2_with (first | ((with_reducible refine gate_dst (N := 4) rfl ?_); refine sqx 4 #[.int .i64 0, .int .i64 0] 26 ?_; intro gb674 hg w12 hbox hb; have BK674 := Aside0.mk hbox; have GW674 := sqg HB hg; replace HB := sqs HB hb; clear hb hbox hg; obtain ⟨_, _, _, _⟩ := sqc2 BK674))
   refine bodyPost_ret (results_cell_row rfl _ _ gb674 26 #[.int .i64 0, .int .i64 a1] (0, 0) _ rfl (sqP BK674) Try.underlying26 rfl (by kernel_rfl)) rfl ?_
   exact sqe HB
  have c11b0 : (a0 == 0) = false := beq_eq_false_iff_ne.mpr c11
  have c11b1 : (a0 != 0) = true := bne_iff_ne.mpr c11
  replace H := sqbi H
  obtain ⟨t677, A14, H⟩ := H
  try dsimp only at H
  simp only [Option.some.injEq, Prod.mk.injEq] at H
  obtain ⟨rfl, rfl⟩ := H
  go_enter Try.func155, Try.ntmps155
  go_wp2_with (first | ((with_reducible refine gate_dst (N := 4) rfl ?_); refine sqx 4 #[.int .i64 0, .int .i64 0] 26 ?_; intro gb674 hg w15 hbox hb; have BK674 := Aside0.mk hbox; have GW674 := sqg HB hg; replace HB := sqs HB hb; clear hb hbox hg) | ((with_reducible refine gate_callee (f := 102) rfl ?_); refine sqL (some 16) Try.func102 #[.int .i64 a1, .int .i64 a0] ?_; (with_reducible refine (spec_l1Mod.calls a1 a0 t677 _ A14.out).mono ?_); rintro e w' ⟨rfl, ⟨nd, rfl⟩⟩; refine ⟨_, rfl, ?_⟩; (try (rw [drewN_self w15]; generalize hq_ : World.drewN w15 _ = w15; replace BK674 := sqq BK674 hq_; replace HB := sqr HB hq_; clear hq_; obtain ⟨hqz4_0, hqz4_1, hqf4_0, hqf4_1⟩ := sqc2 BK674)); obtain ⟨_, _, _, _⟩ := sqc2 BK674))
  refine bodyPost_ret (results_cell_row rfl _ _ gb674 26 #[.int .i64 a0, .int .i64 t677] (0, 0) _ rfl (sqP BK674) Try.underlying26 rfl (by kernel_rfl)) rfl ?_
  exact sqe HB
 have c3b0 : decide (65536 < a0) = true := decide_eq_true c3
 clear c3
 replace H := sqbi H
 obtain ⟨t675, A4, H⟩ := H
 try dsimp only at H
 replace H := sqj H
 rcases H with ⟨c5, H⟩ | ⟨c5, H⟩
 ·have c5b0 : (t675 == 0) = true := beq_iff_eq.mpr c5
  have c5b1 : (t675 != 0) = false := bne_eq_false_iff_eq.mpr c5
  clear c5
  simp only [Option.some.injEq, Prod.mk.injEq] at H
  obtain ⟨rfl, rfl⟩ := H
  go_enter Try.func155, Try.ntmps155
  go_wp2_with (first | ((with_reducible refine gate_dst (N := 4) rfl ?_); refine sqx 4 #[.int .i64 0, .int .i64 0] 26 ?_; intro gb674 hg w6 hbox hb; have BK674 := Aside0.mk hbox; have GW674 := sqg HB hg; replace HB := sqs HB hb; clear hb hbox hg) | ((with_reducible refine gate_callee (f := 156) rfl ?_); refine sqL (some 8) Try.func156 #[.int .i64 a0, .int .i64 65536] ?_; (with_reducible refine (spec_l9Gcd.calls k a0 65536 t675 _ A4.out).mono ?_); rintro e w' ⟨rfl, ⟨nd, rfl⟩⟩; refine ⟨_, rfl, ?_⟩; (try (rw [drewN_self w6]; generalize hq_ : World.drewN w6 _ = w6; replace BK674 := sqq BK674 hq_; replace HB := sqr HB hq_; clear hq_; obtain ⟨hqz1_0, hqz1_1, hqf1_0, hqf1_1⟩ := sqc2 BK674)); obtain ⟨_, _, _, _⟩ := sqc2 BK674))
  refine bodyPost_ret (results_cell_row rfl _ _ gb674 26 #[.int .i64 0, .int .i64 a1] (0, 0) _ rfl (sqP BK674) Try.underlying26 rfl (by kernel_rfl)) rfl ?_
  exact sqe HB
 have c5b0 : (t675 == 0) = false := beq_eq_false_iff_ne.mpr c5
 have c5b1 : (t675 != 0) = true := bne_iff_ne.mpr c5
 replace H := sqbi H
 obtain ⟨t676, A8, H⟩ := H
 try dsimp only at H
 simp only [Option.some.injEq, Prod.mk.injEq] at H
 obtain ⟨rfl, rfl⟩ := H
 go_enter Try.func155, Try.ntmps155
 go_wp2_with (first | ((with_reducible refine gate_dst (N := 4) rfl ?_); refine sqx 4 #[.int .i64 0, .int .i64 0] 26 ?_; intro gb674 hg w9 hbox hb; have BK674 := Aside0.mk hbox; have GW674 := sqg HB hg; replace HB := sqs HB hb; clear hb hbox hg) | ((with_reducible refine gate_callee (f := 156) rfl ?_); refine sqL (some 8) Try.func156 #[.int .i64 a0, .int .i64 65536] ?_; (with_reducible refine (spec_l9Gcd.calls k a0 65536 t675 _ A4.out).mono ?_); rintro e w' ⟨rfl, ⟨nd, rfl⟩⟩; refine ⟨_, rfl, ?_⟩; (try (rw [drewN_self w9]; generalize hq_ : World.drewN w9 _ = w9; replace BK674 := sqq BK674 hq_; replace HB := sqr HB hq_; clear hq_; obtain ⟨hqz2_0, hqz2_1, hqf2_0, hqf2_1⟩ := sqc2 BK674))) | ((with_reducible refine gate_callee (f := 102) rfl ?_); refine sqL (some 16) Try.func102 #[.int .i64 a1, .int .i64 t675] ?_; (with_reducible refine (spec_l1Mod.calls a1 t675 t676 _ A8.out).mono ?_); rintro e w' ⟨rfl, ⟨nd, rfl⟩⟩; refine ⟨_, rfl, ?_⟩; (try (rw [drewN_self w9]; generalize hq_ : World.drewN w9 _ = w9; replace BK674 := sqq BK674 hq_; replace HB := sqr HB hq_; clear hq_; obtain ⟨hqz3_0, hqz3_1, hqf3_0, hqf3_1⟩ := sqc2 BK674)); obtain ⟨_, _, _, _⟩ := sqc2 BK674))
 refine bodyPost_ret (results_cell_row rfl _ _ gb674 26 #[.int .i64 t675, .int .i64 t676] (0, 0) _ rfl (sqP BK674) Try.underlying26 rfl (by kernel_rfl)) rfl ?_
 exact sqe HB

/-! ### spec_RestJoin: function 189 -/
def spec_RestJoin.T3 : Bool × List (List Nat × List Nat) := (true, [([], []), ([0], [0]), ([], []), ([2], [2]), ([1, 3], [1, 3]), ([], []), ([5], [5]), ([], []), ([7], [7]), ([6, 8], [6, 8]), ([4, 9, 4], [4, 9]), ([], []), ([11], [11]), ([10, 12, 10], [10, 12]), ([13, 13, 0, 1, 2, 3, 4, 5, 6, 7, 8, 9, 10, 11, 12, 13], [13])])
def spec_RestJoin.B3 : List Nat := [0, 1, 0, 4, 15, 0, 32, 0, 128, 480, 1023, 0, 2048, 8191, 16383]
theorem spec_RestJoin.tab3 : rtab .any (opsOf Try.f189 3) = spec_RestJoin.T3 := by kernel_rfl
theorem spec_RestJoin.bits3 : waitsOk spec_RestJoin.T3.2 spec_RestJoin.B3 = true := by kernel_rfl
set_option maxHeartbeats 8000000 in
set_option maxRecDepth 100000 in
theorem spec_RestJoin.calls (k : Nat) (a0_0 : Int) (a0_1 : Int) (a1_0 : Int) (a1_1 : Int) (r1 : Int) (r2 : Int) (w : World) (h : spec_RestJoin.f k a0_0 a0_1 a1_0 a1_1 = some (r1, r2)) :
  Calls Try.prog 189 #[.agg #[.int .i64 a0_0, .int .i64 a0_1], .agg #[.int .i64 a1_0, .int .i64 a1_1]] w fun e w' => e = .returned (.agg #[.int .i64 r1, .int .i64 r2]) ∧ Below w.heap.size w w' := by
 have hu26 := Try.underlying26
 have HB := Aside0.mk (Below.refl w.heap.size w)
 have H := h
 unfold spec_RestJoin.f at H
 clear h
 have HC3 := Aside0.mk H
 clear H
 go_enter Try.func189, Try.ntmps189
 go_upto_region 1 with (first | ((with_reducible refine gate_dst (N := 2) rfl ?_); refine sqx 2 #[.int .i64 a0_0, .int .i64 a0_1] 26 ?_; intro gb678 hg w4 hbox hb; have BK678 := Aside0.mk hbox; have GW678 := sqg HB hg; replace HB := sqs HB hb; clear hb hbox hg) | ((with_reducible refine gate_dst (N := 3) rfl ?_); refine sqx 3 #[.int .i64 a1_0, .int .i64 a1_1] 26 ?_; intro gb679 hg w5 hbox hb; have BK679 := Aside0.mk hbox; have GW679 := sqg HB hg; have NB678_679 := sqn BK678 hg; have NB679_678 := sqm BK678 hg; replace BK678 := sqb BK678 hb; replace HB := sqs HB hb; clear hb hbox hg) | ((with_reducible refine gate_dst (N := 4) rfl ?_); refine sqx 4 #[.int .i64 0, .int .i64 0] 26 ?_; intro gb680 hg w6 hbox hb; have BK680 := Aside0.mk hbox; have GW680 := sqg HB hg; have NB678_680 := sqn BK678 hg; have NB680_678 := sqm BK678 hg; have NB679_680 := sqn BK679 hg; have NB680_679 := sqm BK679 hg; refine sqM2 BK678 BK679 hb ?_; clear BK678 BK679; intro BK678 BK679; replace HB := sqs HB hb; clear hb hbox hg))
 (try simp only [Act.put, List.setIfInBounds_toArray, List.set_cons_zero, List.set_cons_succ])
 go_cut [12] (fun v12 wc => ∃ (kq : Nat) (x12_2 : Bool), v12 = .bool x12_2 ∧ Aside0 (spec_RestJoin.j0 kq x12_2 a0_0 a0_1 a1_0 a1_1 = some (r1, r2)) ∧ Aside0 (kq ≤ k) ∧ Aside0 (wc.heap[gb678]? = some (.cells #[.int .i64 a0_0, .int .i64 a0_1] 26 (0, 0))) ∧ Aside0 (wc.heap[gb679]? = some (.cells #[.int .i64 a1_0, .int .i64 a1_1] 26 (0, 0))) ∧ Aside0 (wc.heap[gb680]? = some (.cells #[.int .i64 0, .int .i64 0] 26 (0, 0))) ∧ Aside0 (Below w.heap.size w wc))
 case first =>
  have H := HC3.out
  clear HC3
  replace H := sqbi H
  obtain ⟨t681, A7, H⟩ := H
  try dsimp only at H
  rcases sqI (t681 = true) with c8 | c8
  ·replace c8 := Bool.eq_false_iff.mpr c8
   subst c8
   have H1 : (spec_RestJoin.j0 k true a0_0 a0_1 a1_0 a1_1) = some (r1, r2) := by rw [if_neg (show ¬ (false = true) by decide)] at H; exact H
   clear H
   have H := H1
   clear H1
   have H' := Aside0.mk H
   clear H
   obtain ⟨_, _, _, _⟩ := sqN2 NB678_679 NB678_680
   obtain ⟨_, _, _, _⟩ := sqc2 BK678
   go_wp2_with (first | ((with_reducible refine gate_callee (f := 66) rfl ?_); refine sqL (some 6) Try.func66 #[.agg #[.int .i64 a0_0, .int .i64 a0_1]] ?_; (with_reducible refine (spec_RestOk.calls a0_0 a0_1 false _ A7.out).mono ?_); rintro e w20 ⟨rfl, hb⟩; refine ⟨_, rfl, ?_⟩; refine sqM3 BK678 BK679 BK680 hb ?_; clear BK678 BK679 BK680; intro BK678 BK679 BK680; replace HB := sqs HB hb; (try clear hb)))
   go_meet
   case rel => exact ⟨_, (true), (by first | rfl | (simp; done) | (simp [*]; done)), H', ⟨by first | omega | exact Nat.le_refl _⟩, sqk BK678, sqk BK679, sqk BK680, sqh HB⟩
  subst c8
  have H1 : ((spec_RestOk.f a1_0 a1_1).bind fun t682 => (spec_RestJoin.j0 k (!t682) a0_0 a0_1 a1_0 a1_1)) = some (r1, r2) := by rw [if_pos rfl] at H; exact H
  clear H
  have H := H1
  clear H1
  replace H := sqbi H
  obtain ⟨t682, A9, H⟩ := H
  try dsimp only at H
  have H' := Aside0.mk H
  clear H
  obtain ⟨_, _, _, _⟩ := sqN2 NB678_679 NB678_680
  obtain ⟨_, _, _, _⟩ := sqc2 BK678
  go_wp2_with (first | ((with_reducible refine gate_callee (f := 66) rfl ?_); refine sqL (some 6) Try.func66 #[.agg #[.int .i64 a0_0, .int .i64 a0_1]] ?_; (with_reducible refine (spec_RestOk.calls a0_0 a0_1 true _ A7.out).mono ?_); rintro e w13 ⟨rfl, hb⟩; refine ⟨_, rfl, ?_⟩; refine sqM3 BK678 BK679 BK680 hb ?_; clear BK678 BK679 BK680; intro BK678 BK679 BK680; replace HB := sqs HB hb; (try clear hb); obtain ⟨_, _⟩ := sqN1 NB679_680; obtain ⟨_, _, _, _⟩ := sqc2 BK679) | (go_at_call 66; (with_reducible refine (spec_RestOk.calls a1_0 a1_1 t682 _ A9.out).mono ?_); rintro e w16 ⟨rfl, hb⟩; refine sqM3 BK678 BK679 BK680 hb ?_; clear BK678 BK679 BK680; intro BK678 BK679 BK680; replace HB := sqs HB hb; (try clear hb)))
  go_meet
  case rel => exact ⟨_, (!t682), (by first | rfl | (simp; done) | (simp [*]; done)), H', ⟨by first | omega | exact Nat.le_refl _⟩, sqk BK678, sqk BK679, sqk BK680, sqh HB⟩
 case rest =>
  clear HC3
  obtain ⟨kq, x12_2, rfl, HA, HJ2, BK678, BK679, BK680, HB⟩ := hcut
  cases kq with
  | zero => exact absurd HA.out (by simp [spec_RestJoin.j0])
  | succ kj2 =>
   have H := HA.out
   clear HA
   simp only [spec_RestJoin.j0] at H
   by_cases c21 : x12_2 = true
   ·subst c21
    have H1 : ((spec_l9All.f).bind fun bt683 => (some (bt683.1, bt683.2))) = some (r1, r2) := by rw [if_pos rfl] at H; exact H
    clear H
    have H := H1
    clear H1
    replace H := sqbi H
    obtain ⟨⟨t683, t684⟩, A22, H⟩ := H
    try dsimp only at H
    simp only [Option.some.injEq, Prod.mk.injEq] at H
    obtain ⟨rfl, rfl⟩ := H
    go_wp2_with (first | ((with_reducible refine gate_callee (f := 153) rfl ?_); refine sqL (some 13) Try.func153 #[] ?_; (with_reducible refine (spec_l9All.calls  t683 t684 _ A22.out).mono ?_); rintro e w23 ⟨rfl, hb⟩; refine ⟨_, rfl, ?_⟩; refine sqM3 BK678 BK679 BK680 hb ?_; clear BK678 BK679 BK680; intro BK678 BK679 BK680; replace HB := sqs HB hb; (try clear hb); obtain ⟨_, _, _, _⟩ := sqN2 NB680_678 NB680_679; obtain ⟨_, _, _, _⟩ := sqc2 BK680))
    refine bodyPost_ret (results_cell_row rfl _ _ gb680 26 #[.int .i64 t683, .int .i64 t684] (0, 0) _ rfl (sqP BK680) Try.underlying26 rfl (by kernel_rfl)) rfl ?_
    exact sqe HB
   replace c21 := Bool.eq_false_iff.mpr c21
   subst c21
   have H1 : ((spec_l9Gcd.f kj2 a0_0 a1_0).bind fun t685 => ((spec_l9Gcd.f kj2 t685 (wrap64 (a0_1 - a1_1))).bind fun t686 => ((spec_l9Make.f kj2 t686 a0_1).bind fun bt687 => (some (bt687.1, bt687.2))))) = some (r1, r2) := by rw [if_neg (show ¬ (false = true) by decide)] at H; exact H
   clear H
   have H := H1
   clear H1
   replace H := sqbi H
   obtain ⟨t685, A27, H⟩ := H
   try dsimp only at H
   replace H := sqbi H
   obtain ⟨t686, A28, H⟩ := H
   try dsimp only at H
   replace H := sqbi H
   obtain ⟨⟨t687, t688⟩, A29, H⟩ := H
   try dsimp only at H
   simp only [Option.some.injEq, Prod.mk.injEq] at H
   obtain ⟨rfl, rfl⟩ := H
   try go_wp2
   replace BK678 := sqdr BK678
   replace BK679 := sqdr BK679
   replace BK680 := sqdr BK680
   replace HB := sqdB HB
   refine sqst 15 (fun w' => w'.cell? ⟨gb678, 0, none⟩ = some (.int .i64 a0_0) ∧ w'.cell? ⟨gb678, 1, none⟩ = some (.int .i64 a0_1) ∧ w'.cell? ⟨gb679, 0, none⟩ = some (.int .i64 a1_0) ∧ w'.cell? ⟨gb679, 1, none⟩ = some (.int .i64 a1_1)) sqz (fun hHeld => ?_); refine with_tabW spec_RestJoin.tab3 spec_RestJoin.bits3 (fun HT_ HW_ => ?_)
   generalize wc.drew = w30 at BK678 BK679 BK680 HB hHeld ⊢
   refine sqp HT_ 0 14 ?_
   refine sqp HT_ 2 16 ?_
   refine sqp HT_ 5 19 ?_
   refine sqp HT_ 7 21 ?_
   refine sqp HT_ 11 25 ?_
   refine sqw HT_ HW_ 1 15 hHeld ?_
   refine sqw HT_ HW_ 3 17 hHeld ?_
   refine sqw HT_ HW_ 6 20 hHeld ?_
   refine sqw HT_ HW_ 8 22 hHeld ?_
   refine sqp HT_ 9 23 ?_
   refine sqw HT_ HW_ 12 26 hHeld ?_
   refine sqo HT_ 4 18 (fun K hK => ?_)
   refine sqG Try.func156 #[.int .i64 a0_0, .int .i64 a1_0] ?_
   with_reducible refine (spec_l9Gcd.calls kj2 a0_0 a1_0 t685 _ A27.out).mono ?_
   rintro e w' ⟨rfl, ⟨nd, rfl⟩⟩
   refine ⟨_, rfl, ?_⟩
   refine hK.out _ _ sqz (fun hHeld => ?_)
   clear hK K
   refine sqnm ?_
   refine sqo HT_ 10 24 (fun K hK => ?_)
   refine sqG Try.func156 #[.int .i64 t685, .int .i64 (wrap64 (a0_1 - a1_1))] ?_
   with_reducible refine (spec_l9Gcd.calls kj2 t685 (wrap64 (a0_1 - a1_1)) t686 _ A28.out).mono ?_
   rintro e w' ⟨rfl, ⟨nd, rfl⟩⟩
   refine ⟨_, rfl, ?_⟩
   refine hK.out _ _ sqz (fun hHeld => ?_)
   clear hK K
   refine sqnm ?_
   refine sqo HT_ 13 27 (fun K hK => ?_)
   refine sqG Try.func155 #[.int .i64 t686, .int .i64 a0_1] ?_
   with_reducible refine (spec_l9Make.calls kj2 t686 a0_1 t687 t688 _ A29.out).mono ?_
   rintro e w31 ⟨rfl, hb⟩
   refine ⟨_, rfl, ?_⟩
   refine sqM3 BK678 BK679 BK680 hb ?_; clear BK678 BK679 BK680; intro BK678 BK679 BK680
   replace HB := sqs HB hb
   (try clear hb)
   refine hK.out _ _ sqz (fun hHeld => ?_)
   clear hK K
   refine sqnm ?_
   refine one_ (i := 14) (N := none) #[true, true, true, true, true, true, true, true, true, true, true, true, true, true, true] rfl rfl (one_of HT_.out (by kernel_rfl)) (by decide) (fun K hK => ?_)
   have hs32 : w31.cell? ⟨gb680, 0, none⟩ = some (.int .i64 0) := (blk_cell BK680.out 0).trans rfl
   have hfs32 := blk_frozen BK680.out 0
   have hns32_0 := NB678_680.out
   have hns32_1 := NB679_680.out
   have hms32_0 := NB680_678.out
   have hms32_1 := NB680_679.out
   have hs33 : w31.cell? ⟨gb680, 1, none⟩ = some (.int .i64 0) := (blk_cell BK680.out 1).trans rfl
   have hfs33 := blk_frozen BK680.out 1
   have hns33_0 := NB678_680.out
   have hns33_1 := NB679_680.out
   have hms33_0 := NB680_678.out
   have hms33_1 := NB680_679.out
   refine skip_ (w1 := ?_) (by rfl) rfl ?_ ?_
   rotate_left
   ·go_simp
    rfl
   refine hK.out _ _ ⟨(sqfa NB678_680 ((sqfa NB678_680 (hHeld.1)))), (sqfa NB678_680 ((sqfa NB678_680 (hHeld.2.1)))), (sqfa NB679_680 ((sqfa NB679_680 (hHeld.2.2.1)))), (sqfa NB679_680 ((sqfa NB679_680 (hHeld.2.2.2))))⟩ (fun hHeld => ?_)
   clear hK K
   refine done_ (done_of HT_.out (by kernel_rfl)) ?_
   try go_wp2
   refine bodyPost_ret (results_cell_row rfl _ _ gb680 26 #[.int .i64 t687, .int .i64 t688] (0, 0) _ rfl (sqP BK680) Try.underlying26 rfl (by kernel_rfl)) rfl ?_
   exact sqe HB

end Go.Proofs.Ytkekcenlleebeaa.PFnValLattice
