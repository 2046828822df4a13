/- Functions of the program as plain Lean functions, and that calls of them come to what these tell. Conditions: those in each law. -/
import Derived.Test.YtkekcenlleebeaaSq
import Derived.Test.YtkekcenlleebeaaDFnValLattice
import Derived.Test.YtkekcenlleebeaaQFnValLatticex0
import Derived.Test.YtkekcenlleebeaaQFnValLatticex4
import Derived.Test.YtkekcenlleebeaaQFnValLatticex5
import Derived.Test.YtkekcenlleebeaaQFnValLatticex19
namespace Go.Proofs.Ytkekcenlleebeaa.PFnValLattice
open Go.RowKit Go.Proofs.Ytkekcenlleebeaa.Sq Go.Proofs.YtkekcenlleebeaaW.PrintWords Go.Proofs.YtkekcenlleebeaaW.PrintLast Go.Proofs.YtkekcenlleebeaaW.PrintMore
attribute [local go_sem] max2_int min2_int max_two min_two max_three min_three max_four min_four   -- for this text's walks alone
set_option linter.unusedVariables false
set_option linter.unusedSimpArgs false

/-! ### impl_RangeWiden: function 187 -/
set_option maxHeartbeats 8000000 in
set_option maxRecDepth 100000 in
theorem impl_RangeWiden.calls (k : Nat) (a0_0 : Int) (a0_1 : Int) (a1_0 : Int) (a1_1 : Int) (A2 : Option Addr) (c2 : Nat) (l2 : List Int) (r1 : Int) (r2 : Int) (w : World) (hr2 : Kd.C (Kd.int .i64) w A2 l2.length l2) (hc2 : l2.length ≤ c2) (h : impl_RangeWiden.f k a0_0 a0_1 a1_0 a1_1 l2 = some (r1, r2)) :
  Calls Try.prog 187 #[.agg #[.int .i64 a0_0, .int .i64 a0_1], .agg #[.int .i64 a1_0, .int .i64 a1_1], .slice A2 l2.length c2] w fun e w' => e = .returned (.agg #[.int .i64 r1, .int .i64 r2]) ∧ Below w.heap.size w w' := by
 have hu24 := Try.underlying24
 have HR2 := Aside0.mk hr2
 have HC2 := Aside0.mk hc2
 clear hr2 hc2
 have HB := Aside0.mk (Below.refl w.heap.size w)
 have H := h
 unfold impl_RangeWiden.f at H
 clear h
 replace H := sqbi H
 obtain ⟨⟨t623, t624⟩, A4, H⟩ := H
 try dsimp only at H
 have HC5 := Aside0.mk H
 clear H
 go_enter Try.func187, Try.ntmps187
 go_upto_region 2 with (first | ((with_reducible refine gate_dst (N := 3) rfl ?_); refine sqx 3 #[.int .i64 a0_0, .int .i64 a0_1] 24 ?_; intro gb620 hg w6 hbox hb; have BK620 := Aside0.mk hbox; have GW620 := sqg HB hg; replace HB := sqs HB hb; clear hb hbox hg) | ((with_reducible refine gate_dst (N := 4) rfl ?_); refine sqx 4 #[.int .i64 a1_0, .int .i64 a1_1] 24 ?_; intro gb621 hg w7 hbox hb; have BK621 := Aside0.mk hbox; have GW621 := sqg HB hg; have NB620_621 := sqn BK620 hg; have NB621_620 := sqm BK620 hg; replace BK620 := sqb BK620 hb; replace HB := sqs HB hb; clear hb hbox hg) | ((with_reducible refine gate_dst (N := 6) rfl ?_); refine sqx 6 #[.int .i64 0, .int .i64 0] 24 ?_; intro gb622 hg w8 hbox hb; have BK622 := Aside0.mk hbox; have GW622 := sqg HB hg; have NB620_622 := sqn BK620 hg; have NB622_620 := sqm BK620 hg; have NB621_622 := sqn BK621 hg; have NB622_621 := sqm BK621 hg; refine sqM2 BK620 BK621 hb ?_; clear BK620 BK621; intro BK620 BK621; replace HB := sqs HB hb; clear hb hbox hg; obtain ⟨_, _, _, _⟩ := sqN2 NB620_621 NB620_622; obtain ⟨_, _, _, _⟩ := sqc2 BK620; obtain ⟨_, _⟩ := sqN1 NB621_622; obtain ⟨_, _, _, _⟩ := sqc2 BK621) | ((with_reducible refine gate_callee (f := 184) rfl ?_); refine sqL (some 16) Try.func184 #[.agg #[.int .i64 a0_0, .int .i64 a0_1], .agg #[.int .i64 a1_0, .int .i64 a1_1]] ?_; (with_reducible refine (impl_RangeJoin.calls k a0_0 a0_1 a1_0 a1_1 t623 t624 _ A4.out).mono ?_); rintro e w14 ⟨rfl, hb⟩; refine ⟨_, rfl, ?_⟩; refine sqM3 BK620 BK621 BK622 hb ?_; clear BK620 BK621 BK622; intro BK620 BK621 BK622; replace HB := sqs HB hb; (try clear hb)) | ((with_reducible refine gate_dst (N := 7) rfl ?_); refine sqx 7 #[.int .i64 0, .int .i64 0] 24 ?_; intro gb625 hg w15 hbox hb; have BK625 := Aside0.mk hbox; have GW625 := sqg HB hg; have NB620_625 := sqn BK620 hg; have NB625_620 := sqm BK620 hg; have NB621_625 := sqn BK621 hg; have NB625_621 := sqm BK621 hg; have NB622_625 := sqn BK622 hg; have NB625_622 := sqm BK622 hg; refine sqM3 BK620 BK621 BK622 hb ?_; clear BK620 BK621 BK622; intro BK620 BK621 BK622; replace HB := sqs HB hb; clear hb hbox hg; obtain ⟨_, _, _, _, _, _⟩ := sqN3 NB625_620 NB625_621 NB625_622; obtain ⟨_, _, _, _⟩ := sqc2 BK625))
 (try simp only [Act.put, List.setIfInBounds_toArray, List.set_cons_zero, List.set_cons_succ])
 go_cut [32] (fun v32 wc => ∃ (kq : Nat) (x32_4 : Bool), v32 = .bool x32_4 ∧ Aside0 (impl_RangeWiden.j0 kq l2 x32_4 a0_0 a0_1 t623 t624 = some (r1, r2)) ∧ Aside0 (kq ≤ k) ∧ Aside0 (wc.heap[gb620]? = some (.cells #[.int .i64 a0_0, .int .i64 a0_1] 24 (0, 0))) ∧ Aside0 (wc.heap[gb621]? = some (.cells #[.int .i64 a1_0, .int .i64 a1_1] 24 (0, 0))) ∧ Aside0 (wc.heap[gb622]? = some (.cells #[.int .i64 0, .int .i64 0] 24 (0, 0))) ∧ Aside0 (wc.heap[gb625]? = some (.cells #[.int .i64 t623, .int .i64 t624] 24 (0, 0))) ∧ Aside0 (Below w.heap.size w wc))
 case first =>
  have H := HC5.out
  clear HC5
  replace H := sqbi H
  obtain ⟨t626, A20, H⟩ := H
  try dsimp only at H
  rcases sqI (t626 = true) with c21 | c21
  ·replace c21 := Bool.eq_false_iff.mpr c21
   subst c21
   have H1 : (impl_RangeWiden.j0 k l2 true a0_0 a0_1 t623 t624) = some (r1, r2) := by rw [if_neg (show ¬ (false = true) by decide)] at H; exact H
   clear H
   have H := H1
   clear H1
   have H' := Aside0.mk H
   clear H
   obtain ⟨_, _, _, _, _, _⟩ := sqN3 NB620_621 NB620_622 NB620_625
   obtain ⟨_, _, _, _⟩ := sqc2 BK620
   go_wp2_with (first | ((with_reducible refine gate_callee (f := 76) rfl ?_); refine sqL (some 18) Try.func76 #[.agg #[.int .i64 a0_0, .int .i64 a0_1]] ?_; (with_reducible refine (impl_RangeOk.calls a0_0 a0_1 false _ A20.out).mono ?_); rintro e w64 ⟨rfl, hb⟩; refine ⟨_, rfl, ?_⟩; replace BK620 := sqbb BK620 hb; replace BK621 := sqbb BK621 hb; replace BK622 := sqbb BK622 hb; replace BK625 := Aside0.mk (blk_below (g := gb625) (o := .cells #[.int .i64 t623, .int .i64 t624] 24 (0, 0)) (sqP BK625) hb); replace HB := sqs HB hb; (try clear hb)))
   go_meet
   case rel => exact ⟨_, (true), (by first | rfl | (simp; done) | (simp [*]; done)), H', ⟨by first | omega | exact Nat.le_refl _⟩, sqk BK620, sqk BK621, sqk BK622, sqk BK625, sqh HB⟩
  subst c21
  have H1 : ((impl_RangeOk.f a1_0 a1_1).bind fun t627 => (if t627 = true then ((impl_Range_empty.f a0_0 a0_1).bind fun t628 => (if t628 = true then (impl_RangeWiden.j0 k l2 true a0_0 a0_1 t623 t624) else ((impl_Range_empty.f a1_0 a1_1).bind fun t629 => (impl_RangeWiden.j0 k l2 t629 a0_0 a0_1 t623 t624)))) else (impl_RangeWiden.j0 k l2 true a0_0 a0_1 t623 t624))) = some (r1, r2) := by rw [if_pos rfl] at H; exact H
  clear H
  have H := H1
  clear H1
  replace H := sqbi H
  obtain ⟨t627, A22, H⟩ := H
  try dsimp only at H
  rcases sqI (t627 = true) with c23 | c23
  ·replace c23 := Bool.eq_false_iff.mpr c23
   subst c23
   have H1 : (impl_RangeWiden.j0 k l2 true a0_0 a0_1 t623 t624) = some (r1, r2) := by rw [if_neg (show ¬ (false = true) by decide)] at H; exact H
   clear H
   have H := H1
   clear H1
   have H' := Aside0.mk H
   clear H
   obtain ⟨_, _, _, _, _, _⟩ := sqN3 NB620_621 NB620_622 NB620_625
   obtain ⟨_, _, _, _⟩ := sqc2 BK620
   go_wp2_with (first | ((with_reducible refine gate_callee (f := 76) rfl ?_); refine sqL (some 18) Try.func76 #[.agg #[.int .i64 a0_0, .int .i64 a0_1]] ?_; (with_reducible refine (impl_RangeOk.calls a0_0 a0_1 true _ A20.out).mono ?_); rintro e w55 ⟨rfl, hb⟩; refine ⟨_, rfl, ?_⟩; replace BK620 := sqbb BK620 hb; replace BK621 := sqbb BK621 hb; replace BK622 := sqbb BK622 hb; replace BK625 := Aside0.mk (blk_below (g := gb625) (o := .cells #[.int .i64 t623, .int .i64 t624] 24 (0, 0)) (sqP BK625) hb); replace HB := sqs HB hb; (try clear hb); obtain ⟨_, _, _, _⟩ := sqN2 NB621_622 NB621_625; obtain ⟨_, _, _, _⟩ := sqc2 BK621) | (go_at_call 76; (with_reducible refine (impl_RangeOk.calls a1_0 a1_1 false _ A22.out).mono ?_); rintro e w59 ⟨rfl, hb⟩; refine sqM4 BK620 BK621 BK622 BK625 hb ?_; clear BK620 BK621 BK622 BK625; intro BK620 BK621 BK622 BK625; replace HB := sqs HB hb; (try clear hb)))
   go_meet
   case rel => exact ⟨_, (true), (by first | rfl | (simp; done) | (simp [*]; done)), H', ⟨by first | omega | exact Nat.le_refl _⟩, sqk BK620, sqk BK621, sqk BK622, sqk BK625, sqh HB⟩
  subst c23
  have H1 : ((impl_Range_empty.f a0_0 a0_1).bind fun t628 => (if t628 = true then (impl_RangeWiden.j0 k l2 true a0_0 a0_1 t623 t624) else ((impl_Range_empty.f a1_0 a1_1).bind fun t629 => (impl_RangeWiden.j0 k l2 t629 a0_0 a0_1 t623 t624)))) = some (r1, r2) := by rw [if_pos rfl] at H; exact H
  clear H
  have H := H1
  clear H1
  replace H := sqbi H
  obtain ⟨t628, A24, H⟩ := H
  try dsimp only at H
  by_cases c25 : t628 = true
  ·subst c25
   have H1 : (impl_RangeWiden.j0 k l2 true a0_0 a0_1 t623 t624) = some (r1, r2) := by rw [if_pos rfl] at H; exact H
   clear H
   have H := H1
   clear H1
   have H' := Aside0.mk H
   clear H
   obtain ⟨_, _, _, _, _, _⟩ := sqN3 NB620_621 NB620_622 NB620_625
   obtain ⟨_, _, _, _⟩ := sqc2 BK620
   go_wp2_with (first | ((with_reducible refine gate_callee (f := 76) rfl ?_); refine sqL (some 18) Try.func76 #[.agg #[.int .i64 a0_0, .int .i64 a0_1]] ?_; (with_reducible refine (impl_RangeOk.calls a0_0 a0_1 true _ A20.out).mono ?_); rintro e w30 ⟨rfl, hb⟩; refine ⟨_, rfl, ?_⟩; replace BK620 := sqbb BK620 hb; replace BK621 := sqbb BK621 hb; replace BK622 := sqbb BK622 hb; replace BK625 := Aside0.mk (blk_below (g := gb625) (o := .cells #[.int .i64 t623, .int .i64 t624] 24 (0, 0)) (sqP BK625) hb); replace HB := sqs HB hb; (try clear hb); obtain ⟨_, _, _, _⟩ := sqN2 NB621_622 NB621_625; obtain ⟨_, _, _, _⟩ := sqc2 BK621) | (go_at_call 76; (with_reducible refine (impl_RangeOk.calls a1_0 a1_1 true _ A22.out).mono ?_); rintro e w34 ⟨rfl, hb⟩; refine sqM4 BK620 BK621 BK622 BK625 hb ?_; clear BK620 BK621 BK622 BK625; intro BK620 BK621 BK622 BK625; replace HB := sqs HB hb; (try clear hb); obtain ⟨_, _, _, _⟩ := sqc2 BK620) | (go_at_call 95; (with_reducible refine (impl_Range_empty.calls a0_0 a0_1 true _ A24.out).mono ?_); rintro e w36 ⟨rfl, hb⟩; refine sqM4 BK620 BK621 BK622 BK625 hb ?_; clear BK620 BK621 BK622 BK625; intro BK620 BK621 BK622 BK625; replace HB := sqs HB hb; (try clear hb)))
   go_meet
   case rel => exact ⟨_, (true), (by first | rfl | (simp; done) | (simp [*]; done)), H', ⟨by first | omega | exact Nat.le_refl _⟩, sqk BK620, sqk BK621, sqk BK622, sqk BK625, sqh HB⟩
  replace c25 := Bool.eq_false_iff.mpr c25
  subst c25
  have H1 : ((impl_Range_empty.f a1_0 a1_1).bind fun t629 => (impl_RangeWiden.j0 k l2 t629 a0_0 a0_1 t623 t624)) = some (r1, r2) := by rw [if_neg (show ¬ (false = true) by decide)] at H; exact H
  clear H
  have H := H1
  clear H1
  replace H := sqbi H
  obtain ⟨t629, A37, H⟩ := H
  try dsimp only at H
  have H' := Aside0.mk H
  clear H
  obtain ⟨_, _, _, _, _, _⟩ := sqN3 NB620_621 NB620_622 NB620_625
  obtain ⟨_, _, _, _⟩ := sqc2 BK620
  go_wp2_with (first | ((with_reducible refine gate_callee (f := 76) rfl ?_); refine sqL (some 18) Try.func76 #[.agg #[.int .i64 a0_0, .int .i64 a0_1]] ?_; (with_reducible refine (impl_RangeOk.calls a0_0 a0_1 true _ A20.out).mono ?_); rintro e w42 ⟨rfl, hb⟩; refine ⟨_, rfl, ?_⟩; replace BK620 := sqbb BK620 hb; replace BK621 := sqbb BK621 hb; replace BK622 := sqbb BK622 hb; replace BK625 := Aside0.mk (blk_below (g := gb625) (o := .cells #[.int .i64 t623, .int .i64 t624] 24 (0, 0)) (sqP BK625) hb); replace HB := sqs HB hb; (try clear hb); obtain ⟨_, _, _, _⟩ := sqN2 NB621_622 NB621_625; obtain ⟨_, _, _, _⟩ := sqc2 BK621) | (go_at_call 76; (with_reducible refine (impl_RangeOk.calls a1_0 a1_1 true _ A22.out).mono ?_); rintro e w46 ⟨rfl, hb⟩; refine sqM4 BK620 BK621 BK622 BK625 hb ?_; clear BK620 BK621 BK622 BK625; intro BK620 BK621 BK622 BK625; replace HB := sqs HB hb; (try clear hb); obtain ⟨_, _, _, _⟩ := sqc2 BK620) | (go_at_call 95; (with_reducible refine (impl_Range_empty.calls a0_0 a0_1 false _ A24.out).mono ?_); rintro e w48 ⟨rfl, hb⟩; refine sqM4 BK620 BK621 BK622 BK625 hb ?_; clear BK620 BK621 BK622 BK625; intro BK620 BK621 BK622 BK625; replace HB := sqs HB hb; (try clear hb); obtain ⟨_, _, _, _⟩ := sqc2 BK621) | (go_at_call 95; (with_reducible refine (impl_Range_empty.calls a1_0 a1_1 t629 _ A37.out).mono ?_); rintro e w50 ⟨rfl, hb⟩; refine sqM4 BK620 BK621 BK622 BK625 hb ?_; clear BK620 BK621 BK622 BK625; intro BK620 BK621 BK622 BK625; replace HB := sqs HB hb; (try clear hb)))
  go_meet
  case rel => exact ⟨_, (t629), (by first | rfl | (simp; done) | (simp [*]; done)), H', ⟨by first | omega | exact Nat.le_refl _⟩, sqk BK620, sqk BK621, sqk BK622, sqk BK625, sqh HB⟩
 case rest =>
  clear HC5
  obtain ⟨kq, x32_4, rfl, HA, HJ4, BK620, BK621, BK622, BK625, HB⟩ := hcut
  cases kq with
  | zero => exact absurd HA.out (by simp [impl_RangeWiden.j0])
  | succ kj4 =>
   have H := HA.out
   clear HA
   simp only [impl_RangeWiden.j0] at H
   by_cases c65 : x32_4 = true
   ·subst c65
    have H1 : (some (t623, t624)) = some (r1, r2) := by rw [if_pos rfl] at H; exact H
    clear H
    have H := H1
    clear H1
    simp only [Option.some.injEq, Prod.mk.injEq] at H
    obtain ⟨rfl, rfl⟩ := H
    obtain ⟨_, _, _, _, _, _⟩ := sqN3 NB625_620 NB625_621 NB625_622
    obtain ⟨_, _, _, _⟩ := sqc2 BK625
    obtain ⟨_, _, _, _⟩ := sqN2 NB622_620 NB622_621
    obtain ⟨_, _, _, _⟩ := sqc2 BK622
    go_wp2
    refine bodyPost_ret (results_cell_row rfl _ _ gb622 24 #[.int .i64 t623, .int .i64 t624] (0, 0) _ rfl (sqP BK622) Try.underlying24 rfl (by kernel_rfl)) rfl ?_
    exact sqe HB
   replace c65 := Bool.eq_false_iff.mpr c65
   subst c65
   have H1 : (if t623 < a0_0 then (impl_RangeWiden.l0 kj4 l2 (-2147483648) l2 (l2.length : Int) 0 a0_0 a0_1 t623 t624) else (impl_RangeWiden.j2 kj4 l2 a0_0 a0_1 t623 t624)) = some (r1, r2) := by rw [if_neg (show ¬ (false = true) by decide)] at H; exact H
   clear H
   have H := H1
   clear H1
   have HC73 := Aside0.mk H
   clear H
   obtain ⟨_, _, _, _, _, _⟩ := sqN3 NB625_620 NB625_621 NB625_622
   obtain ⟨_, _, _, _⟩ := sqc2 BK625
   obtain ⟨_, _, _, _⟩ := sqN2 NB620_621 NB620_622
   obtain ⟨_, _, _, _⟩ := sqc2 BK620
   go_upto_if 38 with (fail)
   go_cut [] (fun wc => ∃ (kq : Nat) (x626000_72 : Int), Aside0 (impl_RangeWiden.j2 kq l2 a0_0 a0_1 x626000_72 t624 = some (r1, r2)) ∧ Aside0 (kq ≤ kj4) ∧ Aside0 (wc.heap[gb620]? = some (.cells #[.int .i64 a0_0, .int .i64 a0_1] 24 (0, 0))) ∧ Aside0 (wc.heap[gb621]? = some (.cells #[.int .i64 a1_0, .int .i64 a1_1] 24 (0, 0))) ∧ Aside0 (wc.heap[gb622]? = some (.cells #[.int .i64 0, .int .i64 0] 24 (0, 0))) ∧ Aside0 (wc.heap[gb625]? = some (.cells #[.int .i64 x626000_72, .int .i64 t624] 24 (0, 0))) ∧ Aside0 (Below w.heap.size w wc))
   case first =>
    have H := HC73.out
    clear HC73
    replace H := sqi H
    rcases H with ⟨c81, H⟩ | ⟨c81, H⟩
    ·have c81b0 := decide_eq_false c81
     clear c81
     (first | rw [c81b0] | (simp only [i64_w, i32_w]; rw [c81b0]) | skip)
     have H' := Aside0.mk H
     clear H
     go_wp2
     go_meet
     case rel => exact ⟨_, (t623), H', ⟨by have := HJ4.out; first | omega | exact Nat.le_refl _⟩, sqk BK620, sqk BK621, sqk BK622, sqk BK625, sqh HB⟩
    have c81b0 := decide_eq_true c81
    clear c81
    (first | rw [c81b0] | (simp only [i64_w, i32_w]; rw [c81b0]) | skip)
    have H' := Aside0.mk H
    clear H
    go_wp2
    go_loopg [8, 41] kj4 (fun kq v8 v41 w' => ∃ (x8_2 : Int) (x41_2 : Int), v8 = .int .i64 x8_2 ∧ v41 = .int .i64 x41_2 ∧ Aside0 (impl_RangeWiden.l0 kq l2 x8_2 l2 (l2.length : Int) x41_2 a0_0 a0_1 t623 t624 = some (r1, r2)) ∧ Aside0 (kq ≤ kj4) ∧ Aside0 (w'.heap[gb620]? = some (.cells #[.int .i64 a0_0, .int .i64 a0_1] 24 (0, 0))) ∧ Aside0 (w'.heap[gb621]? = some (.cells #[.int .i64 a1_0, .int .i64 a1_1] 24 (0, 0))) ∧ Aside0 (w'.heap[gb622]? = some (.cells #[.int .i64 0, .int .i64 0] 24 (0, 0))) ∧ Aside0 (w'.heap[gb625]? = some (.cells #[.int .i64 t623, .int .i64 t624] 24 (0, 0))) ∧ Aside0 (Below w.heap.size w w'))
    case atStart => exact ⟨((-2147483648)), (0), (by first | rfl | (simp; done) | (simp [*]; done)), (by first | rfl | (simp; done) | (simp [*]; done)), H', ⟨Nat.le_refl _⟩, sqk BK620, sqk BK621, sqk BK622, sqk BK625, sqh HB⟩
    case round =>
     clear H'
     obtain ⟨x8_2, x41_2, rfl, rfl, HA, HK2, BK620, BK621, BK622, BK625, HB⟩ := hrel
     cases gk with
     | zero => exact absurd HA.out (by simp [impl_RangeWiden.l0])
     | succ k2 =>
      have H := HA.out
      clear HA
      simp only [impl_RangeWiden.l0] at H
      replace H := sqi H
      rcases H with ⟨c82, H⟩ | ⟨c82, H⟩
      ·have c82b0 := decide_eq_false c82
       clear c82
       have H' := Aside0.mk H
       clear H
       obtain ⟨_, _, _, _, _, _⟩ := sqN3 NB625_620 NB625_621 NB625_622
       obtain ⟨_, _, _, _⟩ := sqc2 BK625
       go_wp2
       go_meet
       case rel => exact ⟨_, (x8_2), H', ⟨by have := HJ4.out; have := HK2.out; first | omega | exact Nat.le_refl _⟩, ⟨sqT BK620⟩, ⟨sqT BK621⟩, ⟨sqT BK622⟩, ⟨sqP BK625⟩, sqh HB⟩
      have c82b0 := decide_eq_true c82
      clear c82
      replace H := sqi H
      rcases H with ⟨c83, H⟩ | ⟨c83, H⟩
      ·exact absurd H (by simp)
      have c83b0 := decide_eq_true c83
      clear c83
      replace H := sqi H
      rcases H with ⟨c84, H⟩ | ⟨c84, H⟩
      ·exact absurd H (by simp)
      have c84b0 := decide_eq_true c84
      clear c84
      replace H := sqbi H
      obtain ⟨t631, A85, H⟩ := H
      try dsimp only at H
      rcases sqI (t631 = true) with c86 | c86
      ·replace c86 := Bool.eq_false_iff.mpr c86
       subst c86
       have H1 : (impl_RangeWiden.l0 k2 l2 x8_2 l2 (l2.length : Int) (wrap64 (x41_2 + 1)) a0_0 a0_1 t623 t624) = some (r1, r2) := by rw [if_neg (show ¬ (false = true) by decide)] at H; exact H
       clear H
       have H := H1
       clear H1
       have H' := Aside0.mk H
       clear H
       have p630 : 0 ≤ (x41_2 : Int) := sqd
       have q630 : x41_2 < (l2.length : Int) := sqd
       obtain ⟨ad630, e630, hx630_0⟩ := Kd.at_int HR2.out x41_2 p630 q630
       cases e630
       replace hx630_0 := sqa HB hx630_0
       replace p630 := eq_true p630
       replace q630 := eq_true q630
       go_wp2_with (first | ((with_reducible refine gate_callee (f := 117) rfl ?_); refine sqL (some 46) Try.func117 #[.int .i64 (rd l2 x41_2)] ?_; (with_reducible refine (impl_NumOk.calls (rd l2 x41_2) false _ A85.out).mono ?_); rintro e w' ⟨rfl, ⟨nd, rfl⟩⟩; refine ⟨_, rfl, ?_⟩))
       go_roundg k2
       case measure => have := HJ4.out; have := HK2.out; omega
       case rel => exact ⟨(x8_2), (wrap64 (x41_2 + 1)), (by first | rfl | (simp; done) | (simp [*]; done)), (by first | rfl | (simp; done) | (simp [*]; done)), H', ⟨by have := HJ4.out; have := HK2.out; omega⟩, sqk BK620, sqk BK621, sqk BK622, sqk BK625, sqh HB⟩
      subst c86
      have H1 : (if (rd l2 x41_2) ≤ t623 then (impl_RangeWiden.l0 k2 l2 (mx x8_2 (rd l2 x41_2)) l2 (l2.length : Int) (wrap64 (x41_2 + 1)) a0_0 a0_1 t623 t624) else (impl_RangeWiden.l0 k2 l2 x8_2 l2 (l2.length : Int) (wrap64 (x41_2 + 1)) a0_0 a0_1 t623 t624)) = some (r1, r2) := by rw [if_pos rfl] at H; exact H
      clear H
      have H := H1
      clear H1
      replace H := sqi H
      rcases H with ⟨c87, H⟩ | ⟨c87, H⟩
      ·have c87b0 := decide_eq_false c87
       clear c87
       have H' := Aside0.mk H
       clear H
       have p630 : 0 ≤ (x41_2 : Int) := sqd
       have q630 : x41_2 < (l2.length : Int) := sqd
       obtain ⟨ad630, e630, hx630_0⟩ := Kd.at_int HR2.out x41_2 p630 q630
       cases e630
       replace hx630_0 := sqa HB hx630_0
       replace p630 := eq_true p630
       replace q630 := eq_true q630
       go_wp2_with (first | ((with_reducible refine gate_callee (f := 117) rfl ?_); refine sqL (some 46) Try.func117 #[.int .i64 (rd l2 x41_2)] ?_; (with_reducible refine (impl_NumOk.calls (rd l2 x41_2) true _ A85.out).mono ?_); rintro e w' ⟨rfl, ⟨nd, rfl⟩⟩; refine ⟨_, rfl, ?_⟩; obtain ⟨_, _, _, _, _, _⟩ := sqN3 NB625_620 NB625_621 NB625_622; obtain ⟨_, _, _, _⟩ := sqc2 BK625))
       go_roundg k2
       case measure => have := HJ4.out; have := HK2.out; omega
       case rel => exact ⟨(x8_2), (wrap64 (x41_2 + 1)), (by first | rfl | (simp; done) | (simp [*]; done)), (by first | rfl | (simp; done) | (simp [*]; done)), H', ⟨by have := HJ4.out; have := HK2.out; omega⟩, sqk BK620, sqk BK621, sqk BK622, sqk BK625, sqh HB⟩
      have c87b0 := decide_eq_true c87
      clear c87
      obtain ⟨ji88, hji88⟩ : ∃ j_ : Int, (mx x8_2 (rd l2 x41_2)) = j_ := ⟨_, rfl⟩
      replace H : (impl_RangeWiden.l0 k2 l2 ji88 l2 (l2.length : Int) (wrap64 (x41_2 + 1)) a0_0 a0_1 t623 t624) = some (r1, r2) := by first | (rw [hji88] at H; exact H) | (simp only [hji88] at H ⊢; exact H)
      (try rw [hji88] at A85)
      have hji88_ : (if x8_2 < (rd l2 x41_2) then (rd l2 x41_2) else x8_2) = ji88 := hji88
      have H' := Aside0.mk H
      clear H
      have p630 : 0 ≤ (x41_2 : Int) := sqd
      have q630 : x41_2 < (l2.length : Int) := sqd
      obtain ⟨ad630, e630, hx630_0⟩ := Kd.at_int HR2.out x41_2 p630 q630
      cases e630
      replace hx630_0 := sqa HB hx630_0
      replace p630 := eq_true p630
      replace q630 := eq_true q630
      go_wp2_with (first | ((with_reducible refine gate_callee (f := 117) rfl ?_); refine sqL (some 46) Try.func117 #[.int .i64 (rd l2 x41_2)] ?_; (with_reducible refine (impl_NumOk.calls (rd l2 x41_2) true _ A85.out).mono ?_); rintro e w' ⟨rfl, ⟨nd, rfl⟩⟩; refine ⟨_, rfl, ?_⟩; obtain ⟨_, _, _, _, _, _⟩ := sqN3 NB625_620 NB625_621 NB625_622; obtain ⟨_, _, _, _⟩ := sqc2 BK625))
      go_roundg k2
      case measure => have := HJ4.out; have := HK2.out; omega
      case rel => exact ⟨(ji88), (wrap64 (x41_2 + 1)), (by first | rfl | (simp; done) | (simp only [← hji88] <;> (first | rfl | simp)) | (simp [*]; done)), (by first | rfl | (simp; done) | (simp [*]; done)), H', ⟨by have := HJ4.out; have := HK2.out; omega⟩, sqk BK620, sqk BK621, sqk BK622, sqk BK625, sqh HB⟩
   case rest =>
    clear HC73
    obtain ⟨kq, x626000_72, HA, HJ72, BK620, BK621, BK622, BK625, HB⟩ := hcut
    cases kq with
    | zero => exact absurd HA.out (by simp [impl_RangeWiden.j2])
    | succ kj72 =>
     have H := HA.out
     clear HA
     simp only [impl_RangeWiden.j2] at H
     replace H := sqi H
     rcases H with ⟨c101, H⟩ | ⟨c101, H⟩
     ·have c101b0 : decide (a0_1 < t624) = false := decide_eq_false c101
      clear c101
      simp only [Option.some.injEq, Prod.mk.injEq] at H
      obtain ⟨rfl, rfl⟩ := H
      obtain ⟨_, _, _, _, _, _⟩ := sqN3 NB625_620 NB625_621 NB625_622
      obtain ⟨_, _, _, _⟩ := sqc2 BK625
      obtain ⟨_, _, _, _⟩ := sqN2 NB620_621 NB620_622
      obtain ⟨_, _, _, _⟩ := sqc2 BK620
      obtain ⟨_, _⟩ := sqN1 NB622_621
      obtain ⟨_, _, _, _⟩ := sqc2 BK622
      go_wp2
      refine bodyPost_ret (results_cell_row rfl _ _ gb622 24 #[.int .i64 x626000_72, .int .i64 t624] (0, 0) _ rfl (sqP BK622) Try.underlying24 rfl (by kernel_rfl)) rfl ?_
      exact sqe HB
     have c101b0 : decide (a0_1 < t624) = true := decide_eq_true c101
     clear c101
     have H' := Aside0.mk H
     clear H
     obtain ⟨_, _, _, _, _, _⟩ := sqN3 NB625_620 NB625_621 NB625_622
     obtain ⟨_, _, _, _⟩ := sqc2 BK625
     obtain ⟨_, _, _, _⟩ := sqN2 NB620_621 NB620_622
     obtain ⟨_, _, _, _⟩ := sqc2 BK620
     go_wp2
     go_loopg [11, 66] kj72 (fun kq v11 v66 w' => ∃ (x11_3 : Int) (x66_3 : Int), v11 = .int .i64 x11_3 ∧ v66 = .int .i64 x66_3 ∧ Aside0 (impl_RangeWiden.l1 kq x11_3 l2 (l2.length : Int) x66_3 x626000_72 t624 = some (r1, r2)) ∧ Aside0 (kq ≤ kj72) ∧ Aside0 (w'.heap[gb620]? = some (.cells #[.int .i64 a0_0, .int .i64 a0_1] 24 (0, 0))) ∧ Aside0 (w'.heap[gb621]? = some (.cells #[.int .i64 a1_0, .int .i64 a1_1] 24 (0, 0))) ∧ Aside0 (w'.heap[gb622]? = some (.cells #[.int .i64 0, .int .i64 0] 24 (0, 0))) ∧ Aside0 (w'.heap[gb625]? = some (.cells #[.int .i64 x626000_72, .int .i64 t624] 24 (0, 0))) ∧ Aside0 (Below w.heap.size w w'))
     case atStart => exact ⟨(2147483647), (0), (by first | rfl | (simp; done) | (simp [*]; done)), (by first | rfl | (simp; done) | (simp [*]; done)), H', ⟨Nat.le_refl _⟩, sqk BK620, sqk BK621, sqk BK622, sqk BK625, sqh HB⟩
     case round =>
      clear H'
      obtain ⟨x11_3, x66_3, rfl, rfl, HA, HK3, BK620, BK621, BK622, BK625, HB⟩ := hrel
      cases gk with
      | zero => exact absurd HA.out (by simp [impl_RangeWiden.l1])
      | succ k3 =>
       have H := HA.out
       clear HA
       simp only [impl_RangeWiden.l1] at H
       replace H := sqi H
       rcases H with ⟨c109, H⟩ | ⟨c109, H⟩
       ·have c109b0 := decide_eq_false c109
        clear c109
        simp only [Option.some.injEq, Prod.mk.injEq] at H
        obtain ⟨rfl, rfl⟩ := H
        obtain ⟨_, _, _, _, _, _⟩ := sqN3 NB625_620 NB625_621 NB625_622
        obtain ⟨_, _, _, _⟩ := sqc2 BK625
        obtain ⟨_, _, _, _⟩ := sqN2 NB622_620 NB622_621
        obtain ⟨_, _, _, _⟩ := sqc2 BK622
        go_wp2
        refine bodyPost_ret (results_cell_row rfl _ _ gb622 24 #[.int .i64 x626000_72, .int .i64 x11_3] (0, 0) _ rfl (sqP BK622) Try.underlying24 rfl (by kernel_rfl)) rfl ?_
        exact sqe HB
       have c109b0 := decide_eq_true c109
       clear c109
       replace H := sqi H
       rcases H with ⟨c110, H⟩ | ⟨c110, H⟩
       ·exact absurd H (by simp)
       have c110b0 := decide_eq_true c110
       clear c110
       replace H := sqi H
       rcases H with ⟨c111, H⟩ | ⟨c111, H⟩
       ·exact absurd H (by simp)
       have c111b0 := decide_eq_true c111
       clear c111
       replace H := sqbi H
       obtain ⟨t633, A112, H⟩ := H
       try dsimp only at H
       rcases sqI (t633 = true) with c113 | c113
       ·replace c113 := Bool.eq_false_iff.mpr c113
        subst c113
        have H1 : (impl_RangeWiden.l1 k3 x11_3 l2 (l2.length : Int) (wrap64 (x66_3 + 1)) x626000_72 t624) = some (r1, r2) := by rw [if_neg (show ¬ (false = true) by decide)] at H; exact H
        clear H
        have H := H1
        clear H1
        have H' := Aside0.mk H
        clear H
        have p632 : 0 ≤ (x66_3 : Int) := sqd
        have q632 : x66_3 < (l2.length : Int) := sqd
        obtain ⟨ad632, e632, hx632_0⟩ := Kd.at_int HR2.out x66_3 p632 q632
        cases e632
        replace hx632_0 := sqa HB hx632_0
        replace p632 := eq_true p632
        replace q632 := eq_true q632
        go_wp2_with (first | ((with_reducible refine gate_callee (f := 117) rfl ?_); refine sqL (some 71) Try.func117 #[.int .i64 (rd l2 x66_3)] ?_; (with_reducible refine (impl_NumOk.calls (rd l2 x66_3) false _ A112.out).mono ?_); rintro e w' ⟨rfl, ⟨nd, rfl⟩⟩; refine ⟨_, rfl, ?_⟩))
        go_roundg k3
        case measure => have := HJ4.out; have := HJ72.out; have := HK3.out; omega
        case rel => exact ⟨(x11_3), (wrap64 (x66_3 + 1)), (by first | rfl | (simp; done) | (simp [*]; done)), (by first | rfl | (simp; done) | (simp [*]; done)), H', ⟨by have := HJ4.out; have := HJ72.out; have := HK3.out; omega⟩, sqk BK620, sqk BK621, sqk BK622, sqk BK625, sqh HB⟩
       subst c113
       have H1 : (if (rd l2 x66_3) ≥ t624 then (impl_RangeWiden.l1 k3 (mn x11_3 (rd l2 x66_3)) l2 (l2.length : Int) (wrap64 (x66_3 + 1)) x626000_72 t624) else (impl_RangeWiden.l1 k3 x11_3 l2 (l2.length : Int) (wrap64 (x66_3 + 1)) x626000_72 t624)) = some (r1, r2) := by rw [if_pos rfl] at H; exact H
       clear H
       have H := H1
       clear H1
       replace H := sqi H
       rcases H with ⟨c114, H⟩ | ⟨c114, H⟩
       ·have c114b0 : decide (t624 ≤ (rd l2 x66_3)) = false := decide_eq_false c114
        clear c114
        have H' := Aside0.mk H
        clear H
        have p632 : 0 ≤ (x66_3 : Int) := sqd
        have q632 : x66_3 < (l2.length : Int) := sqd
        obtain ⟨ad632, e632, hx632_0⟩ := Kd.at_int HR2.out x66_3 p632 q632
        cases e632
        replace hx632_0 := sqa HB hx632_0
        replace p632 := eq_true p632
        replace q632 := eq_true q632
        go_wp2_with (first | ((with_reducible refine gate_callee (f := 117) rfl ?_); refine sqL (some 71) Try.func117 #[.int .i64 (rd l2 x66_3)] ?_; (with_reducible refine (impl_NumOk.calls (rd l2 x66_3) true _ A112.out).mono ?_); rintro e w' ⟨rfl, ⟨nd, rfl⟩⟩; refine ⟨_, rfl, ?_⟩; obtain ⟨_, _, _, _, _, _⟩ := sqN3 NB625_620 NB625_621 NB625_622; obtain ⟨_, _, _, _⟩ := sqc2 BK625))
        go_roundg k3
        case measure => have := HJ4.out; have := HJ72.out; have := HK3.out; omega
        case rel => exact ⟨(x11_3), (wrap64 (x66_3 + 1)), (by first | rfl | (simp; done) | (simp [*]; done)), (by first | rfl | (simp; done) | (simp [*]; done)), H', ⟨by have := HJ4.out; have := HJ72.out; have := HK3.out; omega⟩, sqk BK620, sqk BK621, sqk BK622, sqk BK625, sqh HB⟩
       have c114b0 : decide (t624 ≤ (rd l2 x66_3)) = true := decide_eq_true c114
       clear c114
       obtain ⟨ji115, hji115⟩ : ∃ j_ : Int, (mn x11_3 (rd l2 x66_3)) = j_ := ⟨_, rfl⟩
       replace H : (impl_RangeWiden.l1 k3 ji115 l2 (l2.length : Int) (wrap64 (x66_3 + 1)) x626000_72 t624) = some (r1, r2) := by first | (rw [hji115] at H; exact H) | (simp only [hji115] at H ⊢; exact H)
       (try rw [hji115] at A112)
       have hji115_ : (if (rd l2 x66_3) < x11_3 then (rd l2 x66_3) else x11_3) = ji115 := hji115
       have H' := Aside0.mk H
       clear H
       have p632 : 0 ≤ (x66_3 : Int) := sqd
       have q632 : x66_3 < (l2.length : Int) := sqd
       obtain ⟨ad632, e632, hx632_0⟩ := Kd.at_int HR2.out x66_3 p632 q632
       cases e632
       replace hx632_0 := sqa HB hx632_0
       replace p632 := eq_true p632
       replace q632 := eq_true q632
       go_wp2_with (first | ((with_reducible refine gate_callee (f := 117) rfl ?_); refine sqL (some 71) Try.func117 #[.int .i64 (rd l2 x66_3)] ?_; (with_reducible refine (impl_NumOk.calls (rd l2 x66_3) true _ A112.out).mono ?_); rintro e w' ⟨rfl, ⟨nd, rfl⟩⟩; refine ⟨_, rfl, ?_⟩; obtain ⟨_, _, _, _, _, _⟩ := sqN3 NB625_620 NB625_621 NB625_622; obtain ⟨_, _, _, _⟩ := sqc2 BK625))
       go_roundg k3
       case measure => have := HJ4.out; have := HJ72.out; have := HK3.out; omega
       case rel => exact ⟨(ji115), (wrap64 (x66_3 + 1)), (by first | rfl | (simp; done) | (simp only [← hji115] <;> (first | rfl | simp)) | (simp [*]; done)), (by first | rfl | (simp; done) | (simp [*]; done)), H', ⟨by have := HJ4.out; have := HJ72.out; have := HK3.out; omega⟩, sqk BK620, sqk BK621, sqk BK622, sqk BK625, sqh HB⟩

end Go.Proofs.Ytkekcenlleebeaa.PFnValLattice
