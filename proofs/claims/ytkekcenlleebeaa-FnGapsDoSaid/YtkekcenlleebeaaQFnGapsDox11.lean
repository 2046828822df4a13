/- Functions of the program as plain Lean functions, and that calls of them come to what these tell. Conditions: those in each law. -/
import Derived.Test.YtkekcenlleebeaaSq
import Derived.Test.YtkekcenlleebeaaDFnGapsDo
import Derived.Test.YtkekcenlleebeaaQFnGapsDox0
import Derived.Test.YtkekcenlleebeaaQFnGapsDox5
import Derived.Test.YtkekcenlleebeaaQFnGapsDox6
import Derived.Test.YtkekcenlleebeaaQFnGapsDox10
namespace Go.Proofs.Ytkekcenlleebeaa.PFnGapsDo
open Go.RowKit Go.Proofs.Ytkekcenlleebeaa.Sq Go.Proofs.YtkekcenlleebeaaW.PrintWords Go.Proofs.YtkekcenlleebeaaW.PrintLast Go.Proofs.YtkekcenlleebeaaW.PrintMore
attribute [local go_sem] max2_int min2_int max_two min_two max_three min_three max_four min_four   -- for this text's walks alone
set_option linter.unusedVariables false
set_option linter.unusedSimpArgs false

/-! ### impl_GapsMove: function 34 -/
def impl_GapsMove.T5 : Bool × List (List Nat × List Nat) := (true, [([], []), ([0], [0]), ([], []), ([], []), ([], []), ([2, 3, 4], [2, 3, 4]), ([], []), ([1, 5, 0, 1, 2, 3, 4, 5, 6], [1, 5]), ([7, 6, 5, 0, 1, 2, 3, 4, 5, 6], [6, 7])])
def impl_GapsMove.B5 : List Nat := [0, 1, 0, 0, 0, 28, 0, 127, 255]
theorem impl_GapsMove.tab5 : rtab .any (opsOf Try.f34 5) = impl_GapsMove.T5 := by kernel_rfl
theorem impl_GapsMove.bits5 : waitsOk impl_GapsMove.T5.2 impl_GapsMove.B5 = true := by kernel_rfl
def impl_GapsMove.T6 : Bool × List (List Nat × List Nat) := (true, [([], []), ([0], [0]), ([], []), ([], []), ([], []), ([2, 3, 4], [2, 3, 4]), ([], []), ([6], [6]), ([1, 5, 0, 1, 2, 3, 4, 5, 6, 7], [1, 5]), ([8, 7, 5, 0, 1, 2, 3, 4, 5, 6, 7], [7, 8])])
def impl_GapsMove.B6 : List Nat := [0, 1, 0, 0, 0, 28, 0, 64, 255, 511]
theorem impl_GapsMove.tab6 : rtab .any (opsOf Try.f34 6) = impl_GapsMove.T6 := by kernel_rfl
theorem impl_GapsMove.bits6 : waitsOk impl_GapsMove.T6.2 impl_GapsMove.B6 = true := by kernel_rfl
def impl_GapsMove.T13 : Bool × List (List Nat × List Nat) := (true, [([], []), ([0], [0]), ([], []), ([], []), ([], []), ([2, 3, 4], [2, 3, 4]), ([], []), ([6], [6]), ([], []), ([], []), ([], []), ([8, 9, 10, 5], [8, 9, 10]), ([7, 11], [7, 11]), ([12], [12]), ([], []), ([13, 14, 11], [13, 14]), ([15], [15]), ([1, 5, 0, 1, 2, 3, 4, 5, 6, 7, 8, 9, 10, 11, 12, 13, 14, 15, 16], [1, 5]), ([17, 16, 15, 0, 1, 2, 3, 4, 5, 6, 7, 8, 9, 10, 11, 12, 13, 14, 15, 16], [16, 17])])
def impl_GapsMove.B13 : List Nat := [0, 1, 0, 0, 0, 28, 0, 64, 0, 0, 0, 1852, 4092, 8188, 0, 32764, 65532, 131071, 262143]
theorem impl_GapsMove.tab13 : rtab .any (opsOf Try.f34 13) = impl_GapsMove.T13 := by kernel_rfl
theorem impl_GapsMove.bits13 : waitsOk impl_GapsMove.T13.2 impl_GapsMove.B13 = true := by kernel_rfl
def impl_GapsMove.T14 : Bool × List (List Nat × List Nat) := (true, [([], []), ([0], [0]), ([], []), ([], []), ([], []), ([2, 3, 4], [2, 3, 4]), ([], []), ([6], [6]), ([], []), ([], []), ([], []), ([8, 9, 10, 5], [8, 9, 10]), ([7, 11], [7, 11]), ([12], [12]), ([], []), ([14], [14]), ([13, 15, 11], [13, 15]), ([16], [16]), ([1, 5, 0, 1, 2, 3, 4, 5, 6, 7, 8, 9, 10, 11, 12, 13, 14, 15, 16, 17], [1, 5]), ([18, 17, 16, 0, 1, 2, 3, 4, 5, 6, 7, 8, 9, 10, 11, 12, 13, 14, 15, 16, 17], [17, 18])])
def impl_GapsMove.B14 : List Nat := [0, 1, 0, 0, 0, 28, 0, 64, 0, 0, 0, 1852, 4092, 8188, 0, 16384, 65532, 131068, 262143, 524287]
theorem impl_GapsMove.tab14 : rtab .any (opsOf Try.f34 14) = impl_GapsMove.T14 := by kernel_rfl
theorem impl_GapsMove.bits14 : waitsOk impl_GapsMove.T14.2 impl_GapsMove.B14 = true := by kernel_rfl
set_option maxHeartbeats 8000000 in
set_option maxRecDepth 100000 in
theorem impl_GapsMove.calls (k : Nat) (a0_0 : Int) (A0_1 : Option Addr) (c0_1 : Nat) (l0_1 : List Int) (a1 : Int) (a2 : Int) (a3 : Int) (r1 : Int) (r2 : List Int) (w : World) (hr0_1 : Kd.C (Kd.int .i64) w A0_1 l0_1.length l0_1) (hc0_1 : l0_1.length ≤ c0_1) (h : impl_GapsMove.f k a0_0 l0_1 a1 a2 a3 = some (r1, r2)) :
  Calls Try.prog 34 #[.agg #[.int .i64 a0_0, .slice A0_1 l0_1.length c0_1], .int .i64 a1, .int .i64 a2, .int .i64 a3] w fun e w' => ∃ v1_ : Value, e = .returned (.agg #[.int .i64 r1, v1_]) ∧ Kd.R (Kd.int .i64) 3 w' w.heap.size (fun _ => True) v1_ r2 ∧ Below w.heap.size w w' := by
 have hu41 := Try.underlying41
 have HR0_1 := Aside0.mk hr0_1
 have HC0_1 := Aside0.mk hc0_1
 clear hr0_1 hc0_1
 have HB := Aside0.mk (Below.refl w.heap.size w)
 have H : ((impl_GapsOk.f k a0_0 l0_1).bind fun t286 => (if t286 = true then (if a1 < 1 then (impl_GapsMove.j0 k a1 a2 a3 true a0_0 l0_1) else (if a1 > a0_0 then (impl_GapsMove.j0 k a1 a2 a3 true a0_0 l0_1) else (if a2 < 0 then (impl_GapsMove.j0 k a1 a2 a3 true a0_0 l0_1) else (if a2 > a0_0 then (impl_GapsMove.j0 k a1 a2 a3 true a0_0 l0_1) else (if a3 < (-4294967296) then (impl_GapsMove.j0 k a1 a2 a3 true a0_0 l0_1) else (impl_GapsMove.j0 k a1 a2 a3 (decide (a3 > 4294967296)) a0_0 l0_1)))))) else (impl_GapsMove.j0 k a1 a2 a3 true a0_0 l0_1))) = some (r1, r2) := h
 clear h
 have HC5 := Aside0.mk H
 clear H
 go_enter Try.func34, Try.ntmps34
 go_upto_region 1 with (first | ((with_reducible refine gate_dst (N := 4) rfl ?_); refine sqx 4 #[.int .i64 a0_0, .slice A0_1 l0_1.length c0_1] 41 ?_; intro gb284 hg w6 hbox hb; have BK284 := Aside0.mk hbox; have GW284 := sqg HB hg; have GE284 := sqg HB hg; replace HB := sqs HB hb; clear hb hbox hg) | ((with_reducible refine gate_dst (N := 8) rfl ?_); refine sqx 8 #[.int .i64 0, .slice none 0 0] 41 ?_; intro gb285 hg w7 hbox hb; have BK285 := Aside0.mk hbox; have GW285 := sqg HB hg; have GE285 := sqg HB hg; have NB284_285 := sqn BK284 hg; have NB285_284 := sqm BK284 hg; replace BK284 := sqb BK284 hb; replace HB := sqs HB hb; clear hb hbox hg))
 (try simp only [Act.put, List.setIfInBounds_toArray, List.set_cons_zero, List.set_cons_succ])
 go_cut [42] (fun v42 wc => ∃ (kq : Nat) (x42_4 : Bool), v42 = .bool x42_4 ∧ Aside0 (impl_GapsMove.j0 kq a1 a2 a3 x42_4 a0_0 l0_1 = some (r1, r2)) ∧ Aside0 (kq ≤ k) ∧ Aside0 (wc.heap[gb284]? = some (.cells #[.int .i64 a0_0, (.slice A0_1 l0_1.length c0_1)] 41 (0, 0))) ∧ Aside0 (wc.heap[gb285]? = some (.cells #[.int .i64 0, (.slice none 0 0)] 41 (0, 0))) ∧ Aside0 (Below w.heap.size w wc))
 case first =>
  have H := HC5.out
  clear HC5
  replace H := sqbi H
  obtain ⟨t286, A8, H⟩ := H
  replace H : (if t286 = true then (if a1 < 1 then (impl_GapsMove.j0 k a1 a2 a3 true a0_0 l0_1) else (if a1 > a0_0 then (impl_GapsMove.j0 k a1 a2 a3 true a0_0 l0_1) else (if a2 < 0 then (impl_GapsMove.j0 k a1 a2 a3 true a0_0 l0_1) else (if a2 > a0_0 then (impl_GapsMove.j0 k a1 a2 a3 true a0_0 l0_1) else (if a3 < (-4294967296) then (impl_GapsMove.j0 k a1 a2 a3 true a0_0 l0_1) else (impl_GapsMove.j0 k a1 a2 a3 (decide (a3 > 4294967296)) a0_0 l0_1)))))) else (impl_GapsMove.j0 k a1 a2 a3 true a0_0 l0_1)) = some (r1, r2) := H
  rcases sqI (t286 = true) with c9 | c9
  ·replace c9 := Bool.eq_false_iff.mpr c9
   subst c9
   have H1 : (impl_GapsMove.j0 k a1 a2 a3 true a0_0 l0_1) = some (r1, r2) := by rw [if_neg (show ¬ (false = true) by decide)] at H; exact H
   clear H
   have H := H1
   clear H1
   have H' := Aside0.mk H
   clear H
   have hnb38 := NB284_285.out
   have hnc38 := NB285_284.out
   obtain ⟨hcz39_0, hcz39_1, hfz39_0, hfz39_1⟩ := sqc2 BK284
   go_wp2_with (first | ((with_reducible refine gate_callee (f := 31) rfl ?_); refine sqL (some 13) Try.func31 #[.agg #[.int .i64 a0_0, .slice A0_1 l0_1.length c0_1]] ?_; (with_reducible refine (impl_GapsOk.calls k a0_0 _ _ l0_1 false _ ?side1 ?side2 A8.out).mono ?_); (case side1 => exact sqC (Kd.C_below HR0_1.out HB.out)); (case side2 => exact HC0_1.out); rintro e w40 ⟨rfl, hb⟩; refine ⟨_, rfl, ?_⟩; refine sqM2 BK284 BK285 hb ?_; clear BK284 BK285; intro BK284 BK285; replace HB := sqs HB hb; (try clear hb)))
   go_meet
   case rel => exact ⟨_, (true), (by first | rfl | (simp; done) | (simp [*]; done)), H', ⟨by first | omega | exact Nat.le_refl _⟩, sqk BK284, sqk BK285, sqh HB⟩
  subst c9
  have H1 : (if a1 < 1 then (impl_GapsMove.j0 k a1 a2 a3 true a0_0 l0_1) else (if a1 > a0_0 then (impl_GapsMove.j0 k a1 a2 a3 true a0_0 l0_1) else (if a2 < 0 then (impl_GapsMove.j0 k a1 a2 a3 true a0_0 l0_1) else (if a2 > a0_0 then (impl_GapsMove.j0 k a1 a2 a3 true a0_0 l0_1) else (if a3 < (-4294967296) then (impl_GapsMove.j0 k a1 a2 a3 true a0_0 l0_1) else (impl_GapsMove.j0 k a1 a2 a3 (decide (a3 > 4294967296)) a0_0 l0_1)))))) = some (r1, r2) := by rw [if_pos rfl] at H; exact H
  clear H
  have H := H1
  clear H1
  replace H := sqj H
  rcases H with ⟨c10, H⟩ | ⟨c10, H⟩
  ·have c10b0 := decide_eq_true c10
   clear c10
   (first | rw [c10b0] | (simp only [i64_w, i32_w]; rw [c10b0]) | skip)
   have H' := Aside0.mk H
   clear H
   have hnb11 := NB284_285.out
   have hnc11 := NB285_284.out
   obtain ⟨hcz12_0, hcz12_1, hfz12_0, hfz12_1⟩ := sqc2 BK284
   go_wp2_with (first | ((with_reducible refine gate_callee (f := 31) rfl ?_); refine sqL (some 13) Try.func31 #[.agg #[.int .i64 a0_0, .slice A0_1 l0_1.length c0_1]] ?_; (with_reducible refine (impl_GapsOk.calls k a0_0 _ _ l0_1 true _ ?side1 ?side2 A8.out).mono ?_); (case side1 => exact sqC (Kd.C_below HR0_1.out HB.out)); (case side2 => exact HC0_1.out); rintro e w13 ⟨rfl, hb⟩; refine ⟨_, rfl, ?_⟩; refine sqM2 BK284 BK285 hb ?_; clear BK284 BK285; intro BK284 BK285; replace HB := sqs HB hb; (try clear hb)))
   go_meet
   case rel => exact ⟨_, (true), (by first | rfl | (simp; done) | (simp [*]; done)), H', ⟨by first | omega | exact Nat.le_refl _⟩, sqk BK284, sqk BK285, sqh HB⟩
  have c10b0 := decide_eq_false c10
  clear c10
  (first | rw [c10b0] | (simp only [i64_w, i32_w]; rw [c10b0]) | skip)
  replace H := sqj H
  rcases H with ⟨c14, H⟩ | ⟨c14, H⟩
  ·have c14b0 : decide (a0_0 < a1) = true := decide_eq_true c14
   clear c14
   have H' := Aside0.mk H
   clear H
   have hnb15 := NB284_285.out
   have hnc15 := NB285_284.out
   obtain ⟨hcz16_0, hcz16_1, hfz16_0, hfz16_1⟩ := sqc2 BK284
   go_wp2_with (first | ((with_reducible refine gate_callee (f := 31) rfl ?_); refine sqL (some 13) Try.func31 #[.agg #[.int .i64 a0_0, .slice A0_1 l0_1.length c0_1]] ?_; (with_reducible refine (impl_GapsOk.calls k a0_0 _ _ l0_1 true _ ?side1 ?side2 A8.out).mono ?_); (case side1 => exact sqC (Kd.C_below HR0_1.out HB.out)); (case side2 => exact HC0_1.out); rintro e w17 ⟨rfl, hb⟩; refine ⟨_, rfl, ?_⟩; refine sqM2 BK284 BK285 hb ?_; clear BK284 BK285; intro BK284 BK285; replace HB := sqs HB hb; (try clear hb); obtain ⟨hcz18_0, hcz18_1, hfz18_0, hfz18_1⟩ := sqc2 BK284))
   go_meet
   case rel => exact ⟨_, (true), (by first | rfl | (simp; done) | (simp [*]; done)), H', ⟨by first | omega | exact Nat.le_refl _⟩, sqk BK284, sqk BK285, sqh HB⟩
  have c14b0 : decide (a0_0 < a1) = false := decide_eq_false c14
  clear c14
  replace H := sqj H
  rcases H with ⟨c19, H⟩ | ⟨c19, H⟩
  ·have c19b0 := decide_eq_true c19
   clear c19
   have H' := Aside0.mk H
   clear H
   have hnb20 := NB284_285.out
   have hnc20 := NB285_284.out
   obtain ⟨hcz21_0, hcz21_1, hfz21_0, hfz21_1⟩ := sqc2 BK284
   go_wp2_with (first | ((with_reducible refine gate_callee (f := 31) rfl ?_); refine sqL (some 13) Try.func31 #[.agg #[.int .i64 a0_0, .slice A0_1 l0_1.length c0_1]] ?_; (with_reducible refine (impl_GapsOk.calls k a0_0 _ _ l0_1 true _ ?side1 ?side2 A8.out).mono ?_); (case side1 => exact sqC (Kd.C_below HR0_1.out HB.out)); (case side2 => exact HC0_1.out); rintro e w22 ⟨rfl, hb⟩; refine ⟨_, rfl, ?_⟩; refine sqM2 BK284 BK285 hb ?_; clear BK284 BK285; intro BK284 BK285; replace HB := sqs HB hb; (try clear hb); obtain ⟨hcz23_0, hcz23_1, hfz23_0, hfz23_1⟩ := sqc2 BK284))
   go_meet
   case rel => exact ⟨_, (true), (by first | rfl | (simp; done) | (simp [*]; done)), H', ⟨by first | omega | exact Nat.le_refl _⟩, sqk BK284, sqk BK285, sqh HB⟩
  have c19b0 := decide_eq_false c19
  clear c19
  replace H := sqj H
  rcases H with ⟨c24, H⟩ | ⟨c24, H⟩
  ·have c24b0 : decide (a0_0 < a2) = true := decide_eq_true c24
   clear c24
   have H' := Aside0.mk H
   clear H
   have hnb25 := NB284_285.out
   have hnc25 := NB285_284.out
   obtain ⟨hcz26_0, hcz26_1, hfz26_0, hfz26_1⟩ := sqc2 BK284
   go_wp2_with (first | ((with_reducible refine gate_callee (f := 31) rfl ?_); refine sqL (some 13) Try.func31 #[.agg #[.int .i64 a0_0, .slice A0_1 l0_1.length c0_1]] ?_; (with_reducible refine (impl_GapsOk.calls k a0_0 _ _ l0_1 true _ ?side1 ?side2 A8.out).mono ?_); (case side1 => exact sqC (Kd.C_below HR0_1.out HB.out)); (case side2 => exact HC0_1.out); rintro e w27 ⟨rfl, hb⟩; refine ⟨_, rfl, ?_⟩; refine sqM2 BK284 BK285 hb ?_; clear BK284 BK285; intro BK284 BK285; replace HB := sqs HB hb; (try clear hb); obtain ⟨hcz28_0, hcz28_1, hfz28_0, hfz28_1⟩ := sqc2 BK284))
   go_meet
   case rel => exact ⟨_, (true), (by first | rfl | (simp; done) | (simp [*]; done)), H', ⟨by first | omega | exact Nat.le_refl _⟩, sqk BK284, sqk BK285, sqh HB⟩
  have c24b0 : decide (a0_0 < a2) = false := decide_eq_false c24
  clear c24
  replace H := sqj H
  rcases H with ⟨c29, H⟩ | ⟨c29, H⟩
  ·have c29b0 := decide_eq_true c29
   clear c29
   have H' := Aside0.mk H
   clear H
   have hnb30 := NB284_285.out
   have hnc30 := NB285_284.out
   obtain ⟨hcz31_0, hcz31_1, hfz31_0, hfz31_1⟩ := sqc2 BK284
   go_wp2_with (first | ((with_reducible refine gate_callee (f := 31) rfl ?_); refine sqL (some 13) Try.func31 #[.agg #[.int .i64 a0_0, .slice A0_1 l0_1.length c0_1]] ?_; (with_reducible refine (impl_GapsOk.calls k a0_0 _ _ l0_1 true _ ?side1 ?side2 A8.out).mono ?_); (case side1 => exact sqC (Kd.C_below HR0_1.out HB.out)); (case side2 => exact HC0_1.out); rintro e w32 ⟨rfl, hb⟩; refine ⟨_, rfl, ?_⟩; refine sqM2 BK284 BK285 hb ?_; clear BK284 BK285; intro BK284 BK285; replace HB := sqs HB hb; (try clear hb); obtain ⟨hcz33_0, hcz33_1, hfz33_0, hfz33_1⟩ := sqc2 BK284))
   go_meet
   case rel => exact ⟨_, (true), (by first | rfl | (simp; done) | (simp [*]; done)), H', ⟨by first | omega | exact Nat.le_refl _⟩, sqk BK284, sqk BK285, sqh HB⟩
  have c29b0 := decide_eq_false c29
  clear c29
  have H' := Aside0.mk H
  clear H
  have hnb34 := NB284_285.out
  have hnc34 := NB285_284.out
  obtain ⟨hcz35_0, hcz35_1, hfz35_0, hfz35_1⟩ := sqc2 BK284
  go_wp2_with (first | ((with_reducible refine gate_callee (f := 31) rfl ?_); refine sqL (some 13) Try.func31 #[.agg #[.int .i64 a0_0, .slice A0_1 l0_1.length c0_1]] ?_; (with_reducible refine (impl_GapsOk.calls k a0_0 _ _ l0_1 true _ ?side1 ?side2 A8.out).mono ?_); (case side1 => exact sqC (Kd.C_below HR0_1.out HB.out)); (case side2 => exact HC0_1.out); rintro e w36 ⟨rfl, hb⟩; refine ⟨_, rfl, ?_⟩; refine sqM2 BK284 BK285 hb ?_; clear BK284 BK285; intro BK284 BK285; replace HB := sqs HB hb; (try clear hb); obtain ⟨hcz37_0, hcz37_1, hfz37_0, hfz37_1⟩ := sqc2 BK284))
  go_meet
  case rel => exact ⟨_, (decide (a3 > 4294967296)), (by first | rfl | (simp; done) | (simp [*]; done)), H', ⟨by first | omega | exact Nat.le_refl _⟩, sqk BK284, sqk BK285, sqh HB⟩
 case rest =>
  clear HC5
  obtain ⟨kq, x42_4, rfl, HA, HJ4, BK284, BK285, HB⟩ := hcut
  cases kq with
  | zero => exact absurd HA.out (by simp [impl_GapsMove.j0])
  | succ kj4 =>
   have H := HA.out
   clear HA
   simp only [impl_GapsMove.j0] at H
   by_cases c41 : x42_4 = true
   ·subst c41
    have H1 : (some (0, ([] : List Int))) = some (r1, r2) := by rw [if_pos rfl] at H; exact H
    clear H
    have H := H1
    clear H1
    simp only [Option.some.injEq, Prod.mk.injEq] at H
    obtain ⟨rfl, rfl⟩ := H
    have hnb42 := NB285_284.out
    have hnc42 := NB284_285.out
    obtain ⟨hcz43_0, hcz43_1, hfz43_0, hfz43_1⟩ := sqc2 BK285
    go_wp2
    refine bodyPost_ret (results_cell_row rfl _ _ gb285 41 #[.int .i64 0, .slice none 0 0] (0, 0) _ rfl (by refine sqt ?_; refine blk_put (cs := #[.int .i64 0, .slice none 0 0]) ?_ 1 _ rfl; refine sqt ?_; refine blk_put (cs := #[.int .i64 0, .slice none 0 0]) ?_ 0 _ rfl; refine sqt ?_; exact BK285.out) Try.underlying41 rfl (by kernel_rfl)) rfl ?_
    exact ⟨_, by first | rfl | (simp [errW_none, errW_some] <;> rfl) | (simp [*, errW_none, errW_some] <;> rfl), by first | exact Kd.R_nil _ _ _ _ _ | exact Kd.N_nil _ _ _ _ _ | exact Kd.V_nil _ _ _ _ _ | exact Kd.Q_nil _ _ _ _ _ | exact Kd.S_nil _ _ _ _ _, by repeat (first | (with_reducible first | exact HB.out | apply below_alloc | apply pw_below_drewN | apply below_drew1 | refine below_set ?_ GE284.out | refine below_set ?_ GE285.out) | exact HB.out)⟩
   replace c41 := Bool.eq_false_iff.mpr c41
   subst c41
   have H1 : (if a1 = a2 then ((impl_Gaps_clone.f a0_0 l0_1).bind fun bt296 => (impl_GapsMove.l0 kj4 a1 a3 (wrap64 (a0_0 + 1)) 0 a0_0 l0_1 bt296.1 bt296.2)) else ((impl_GapsForget.f kj4 a0_0 l0_1 a1).bind fun bt287 => ((impl_Gaps_at.f a0_0 l0_1 a1 a2).bind fun t292 => (if 0 ≤ t292 then (if t292 < (bt287.2.length : Int) then ((impl_Gaps_at.f a0_0 l0_1 a2 a1).bind fun t294 => (if 0 ≤ t294 then (if t294 < (bt287.2.length : Int) then (some (bt287.1, ((bt287.2.set (t292 : Int).toNat a3).set (t294 : Int).toNat (wrap64 (-a3))))) else (none)) else (none))) else (none)) else (none))))) = some (r1, r2) := by rw [if_neg (show ¬ (false = true) by decide)] at H; exact H
   clear H
   have H := H1
   clear H1
   replace H := sqi H
   rcases H with ⟨c44, H⟩ | ⟨c44, H⟩
   ·have c44b0 : (a1 == a2) = false := beq_eq_false_iff_ne.mpr c44
    have c44b1 : (a1 != a2) = true := bne_iff_ne.mpr c44
    replace H := sqbi H
    obtain ⟨⟨t287, t288⟩, A90, H⟩ := H
    replace H : ((impl_Gaps_at.f a0_0 l0_1 a1 a2).bind fun t292 => (if 0 ≤ t292 then (if t292 < (t288.length : Int) then ((impl_Gaps_at.f a0_0 l0_1 a2 a1).bind fun t294 => (if 0 ≤ t294 then (if t294 < (t288.length : Int) then (some (t287, ((t288.set (t292 : Int).toNat a3).set (t294 : Int).toNat (wrap64 (-a3))))) else (none)) else (none))) else (none)) else (none))) = some (r1, r2) := H
    replace H := sqbi H
    obtain ⟨t292, A91, H⟩ := H
    replace H : (if 0 ≤ t292 then (if t292 < (t288.length : Int) then ((impl_Gaps_at.f a0_0 l0_1 a2 a1).bind fun t294 => (if 0 ≤ t294 then (if t294 < (t288.length : Int) then (some (t287, ((t288.set (t292 : Int).toNat a3).set (t294 : Int).toNat (wrap64 (-a3))))) else (none)) else (none))) else (none)) else (none)) = some (r1, r2) := H
    replace H := sqi H
    rcases H with ⟨c92, H⟩ | ⟨c92, H⟩
    ·exact absurd H (by simp)
    have c92b0 := decide_eq_true c92
    clear c92
    replace H := sqi H
    rcases H with ⟨c93, H⟩ | ⟨c93, H⟩
    ·exact absurd H (by simp)
    have c93b0 := decide_eq_true c93
    clear c93
    obtain ⟨y293, hy293⟩ : ∃ y_ : List Int, y_ = (t288.set (t292 : Int).toNat a3) := ⟨_, rfl⟩
    replace H : ((impl_Gaps_at.f a0_0 l0_1 a2 a1).bind fun t294 => (if 0 ≤ t294 then (if t294 < (t288.length : Int) then (some (t287, (y293.set (t294 : Int).toNat (wrap64 (-a3))))) else (none)) else (none))) = some (r1, r2) := by first | (rw [hy293]; with_reducible exact H) | (have H2_ := (Option.bind_some _ _).symm.trans H; rw [hy293]; with_reducible exact H2_) | (have H2_ := (Option.bind_some _ _).symm.trans H; with_reducible exact H2_) | with_reducible exact H | (rw [hy293]; exact H) | exact H
    have Ny293 := Aside0.mk hy293
    clear hy293
    replace H := sqbi H
    obtain ⟨t294, A95, H⟩ := H
    replace H : (if 0 ≤ t294 then (if t294 < (t288.length : Int) then (some (t287, (y293.set (t294 : Int).toNat (wrap64 (-a3))))) else (none)) else (none)) = some (r1, r2) := H
    replace H := sqi H
    rcases H with ⟨c96, H⟩ | ⟨c96, H⟩
    ·exact absurd H (by simp)
    have c96b0 := decide_eq_true c96
    clear c96
    replace H := sqi H
    rcases H with ⟨c97, H⟩ | ⟨c97, H⟩
    ·exact absurd H (by simp)
    have c97b0 := decide_eq_true c97
    clear c97
    obtain ⟨y295, hy295⟩ : ∃ y_ : List Int, y_ = (y293.set (t294 : Int).toNat (wrap64 (-a3))) := ⟨_, rfl⟩
    replace H : (some (t287, y295)) = some (r1, r2) := by first | (rw [hy295]; with_reducible exact H) | (have H2_ := (Option.bind_some _ _).symm.trans H; rw [hy295]; with_reducible exact H2_) | (have H2_ := (Option.bind_some _ _).symm.trans H; with_reducible exact H2_) | with_reducible exact H | (rw [hy295]; exact H) | exact H
    have Ny295 := Aside0.mk hy295
    clear hy295
    simp only [Option.some.injEq, Prod.mk.injEq] at H
    obtain ⟨rfl, rfl⟩ := H
    have hnb99 := NB284_285.out
    have hnc99 := NB285_284.out
    obtain ⟨hcz100_0, hcz100_1, hfz100_0, hfz100_1⟩ := sqc2 BK284
    try go_wp2_with (first | ((with_reducible refine gate_callee (f := 49) rfl ?_); refine sqL (some 49) Try.func49 #[.agg #[.int .i64 a0_0, .slice A0_1 l0_1.length c0_1], .int .i64 a1] ?_; (with_reducible refine (impl_GapsForget.calls kj4 a0_0 _ _ l0_1 a1 t287 t288 _ ?side1 ?side2 A90.out).mono ?_); (case side1 => exact sqC (Kd.C_below HR0_1.out HB.out)); (case side2 => exact HC0_1.out); rintro e w101 ⟨v289, rfl, ho0, hb⟩; refine ⟨_, rfl, ?_⟩; have HO290 := Aside0.mk (Kd.R_lower ho0 (below_size (sqB HB))); refine sqM2 BK284 BK285 hb ?_; clear BK284 BK285; intro BK284 BK285; replace HB := sqs HB hb; (try clear hb); (try clear hb2); (try clear hk); (try clear hi); (try clear ho0)) | ((with_reducible refine gate_dst (N := 9) rfl ?_); refine sqx 9 #[.int .i64 0, .slice none 0 0] 41 ?_; intro gb291 hg w102 hbox hb; have n0_ := Aside0.mk (Kd.R_below (sqy HO290.out) hb); have n1_ := sqb BK284 hb; have n2_ := sqb BK285 hb; have n3_ := sqs HB hb; have n4_ := Aside0.mk (hbox); have n5_ := sqg HB hg; have n6_ := sqg HB hg; have n7_ := sqn BK284 hg; have n8_ := sqm BK284 hg; have n9_ := sqn BK285 hg; have n10_ := sqm BK285 hg; clear HO290; clear BK284; clear BK285; clear HB; have HO290 := n0_; have BK284 := n1_; have BK285 := n2_; have HB := n3_; have BK291 := n4_; have GW291 := n5_; have GE291 := n6_; have NB284_291 := n7_; have NB291_284 := n8_; have NB285_291 := n9_; have NB291_285 := n10_; clear n0_ n1_ n2_ n3_ n4_ n5_ n6_ n7_ n8_ n9_ n10_; clear hb hbox hg; have hnb103 := NB291_284.out; have hnc103 := NB284_291.out; have hnb104 := NB291_285.out; have hnc104 := NB285_291.out; obtain ⟨hcz105_0, hcz105_1, hfz105_0, hfz105_1⟩ := sqc2 BK291; obtain ⟨Ao106, co106, eo106⟩ := Kd.R_slice HO290.out; subst eo106))
    have n0_ : Aside0 (Kd.R (Kd.int .i64) 3 ((w102.setCell ⟨gb291, 0, none⟩ (.int .i64 t287)).setCell ⟨gb291, 1, none⟩ (.slice Ao106 t288.length co106)) w.heap.size (fun _ => True) (.slice Ao106 t288.length co106) t288) := ⟨by (with_reducible repeat (first | apply Kd.R_alloc | apply Kd.R_drewN | apply Kd.R_drew)); exact Kd.R_mono (Kd.R_far (p := ⟨gb291, 1, none⟩) (Kd.R_far (p := ⟨gb291, 0, none⟩) (Kd.R_types HO290.out BK291.out (by decide)) (fun _ hk => hk.2) (.int .i64 t287)) (fun _ hk => hk.2) (.slice Ao106 t288.length co106)) (fun _ hk => trivial)⟩
    have n1_ : Aside0 (((w102.setCell ⟨gb291, 0, none⟩ (.int .i64 t287)).setCell ⟨gb291, 1, none⟩ (.slice Ao106 t288.length co106)).heap[gb284]? = some (.cells #[.int .i64 a0_0, .slice A0_1 l0_1.length c0_1] 41 (0, 0))) := ⟨by refine sqt ?_; refine blk_far ?_ NB284_291.out _; refine sqt ?_; refine blk_far ?_ NB284_291.out _; refine sqt ?_; exact BK284.out⟩
    have n2_ : Aside0 (((w102.setCell ⟨gb291, 0, none⟩ (.int .i64 t287)).setCell ⟨gb291, 1, none⟩ (.slice Ao106 t288.length co106)).heap[gb285]? = some (.cells #[.int .i64 0, .slice none 0 0] 41 (0, 0))) := ⟨by refine sqt ?_; refine blk_far ?_ NB285_291.out _; refine sqt ?_; refine blk_far ?_ NB285_291.out _; refine sqt ?_; exact BK285.out⟩
    have n3_ : Aside0 (((w102.setCell ⟨gb291, 0, none⟩ (.int .i64 t287)).setCell ⟨gb291, 1, none⟩ (.slice Ao106 t288.length co106)).heap[gb291]? = some (.cells #[.int .i64 t287, .slice Ao106 t288.length co106] 41 (0, 0))) := ⟨by refine sqt ?_; refine blk_put (cs := #[.int .i64 t287, .slice none 0 0]) ?_ 1 _ rfl; refine sqt ?_; refine blk_put (cs := #[.int .i64 0, .slice none 0 0]) ?_ 0 _ rfl; refine sqt ?_; exact BK291.out⟩
    have n4_ : Aside0 (Below w.heap.size w ((w102.setCell ⟨gb291, 0, none⟩ (.int .i64 t287)).setCell ⟨gb291, 1, none⟩ (.slice Ao106 t288.length co106))) := sqh HB
    (try clear HO290)
    (try clear BK284)
    (try clear BK285)
    (try clear BK291)
    (try clear HB)
    generalize ((w102.setCell ⟨gb291, 0, none⟩ (.int .i64 t287)).setCell ⟨gb291, 1, none⟩ (.slice Ao106 t288.length co106)) = w107 at n0_ n1_ n2_ n3_ n4_ ⊢
    have HO290 := n0_
    have BK284 := n1_
    have BK285 := n2_
    have BK291 := n3_
    have HB := n4_
    clear n0_ n1_ n2_ n3_ n4_
    replace HO290 := Aside0.mk (Kd.R_drew HO290.out)
    replace BK284 := Aside0.mk (blk_drew BK284.out)
    replace BK285 := Aside0.mk (blk_drew BK285.out)
    replace BK291 := Aside0.mk (blk_drew BK291.out)
    replace HB := Aside0.mk (below_drew1 HB.out)
    refine start_ (n := 9) (S := fun w' => w'.cell? ⟨gb291, 0, none⟩ = some (.int .i64 t287) ∧ w'.cell? ⟨gb291, 1, none⟩ = some (.slice Ao106 t288.length co106) ∧ w'.cell? ⟨gb284, 0, none⟩ = some (.int .i64 a0_0) ∧ w'.cell? ⟨gb284, 1, none⟩ = some (.slice A0_1 l0_1.length c0_1)) (ds := [8]) #[false, false, false, false, false, false, false, false, false] (by kernel_rfl) rfl rfl sqz (fun hHeld => ?_); refine with_tabW impl_GapsMove.tab5 impl_GapsMove.bits5 (fun HT_ HW_ => ?_)
    generalize w107.drew = w108 at HO290 BK284 BK285 BK291 HB hHeld ⊢
    refine sqp HT_ 0 50 ?_
    refine sqp HT_ 3 53 ?_
    refine sqp HT_ 4 54 ?_
    refine sqp HT_ 6 56 ?_
    refine sqw HT_ HW_ 1 51 hHeld ?_
    refine sqw HT_ HW_ 2 52 hHeld ?_
    refine sqo HT_ 5 55 (fun K hK => ?_)
    refine sqG Try.func118 #[.agg #[.int .i64 a0_0, .slice A0_1 l0_1.length c0_1], .int .i64 a1, .int .i64 a2] ?_
    with_reducible refine (impl_Gaps_at.calls a0_0 _ _ l0_1 a1 a2 t292 _ ?side1 ?side2 A91.out).mono ?_
    (case side1 => exact sqC (Kd.C_below HR0_1.out HB.out))
    (case side2 => exact HC0_1.out)
    rintro e w109 ⟨rfl, hb⟩
    refine ⟨_, rfl, ?_⟩
    have n0_ := Aside0.mk (Kd.R_below (sqy HO290.out) hb)
    have n1_ := sqb BK284 hb
    have n2_ := sqb BK285 hb
    have n3_ := sqb BK291 hb
    have n4_ := sqs HB hb
    clear HO290
    clear BK284
    clear BK285
    clear BK291
    clear HB
    have HO290 := n0_
    have BK284 := n1_
    have BK285 := n2_
    have BK291 := n3_
    have HB := n4_
    clear n0_ n1_ n2_ n3_ n4_
    (try clear hb)
    have p94 : 0 ≤ (t292 : Int) := sqd
    have q94 : (t292 : Int) < ((t288.length : Int) : Int) := sqd
    obtain ⟨go94, co94, eo94, gb94, gl94, cl94, HG94⟩ := Kd.R_form HO290.out (by omega)
    (first | cases eo94 | (injection eo94 with ea_ en_ ec_; (first | subst ea_ | (injection ea_ with ea_; subst ea_)); subst ec_; clear en_))
    have GB94 := Aside0.mk gb94
    have GG94 := Aside0.mk HG94
    clear gb94 gl94 HG94
    obtain ⟨hx94_0, hf94_0⟩ := Kd.R_celln 0 HO290.out (t292 : Int) p94 q94
    replace p94 := eq_true p94
    replace q94 := eq_true q94
    have HP110 := Kd.R_putn HO290.out (t292 : Int) a3
    rw [← Ny293.out] at HP110
    have HQ110 := Aside0.mk HP110
    clear HP110
    refine hK.out _ _ sqz (fun hHeld => ?_)
    clear hK K
    refine sqnm ?_
    refine sqp HT_ 7 57 ?_
    refine last_ (i := 8) (N := none) #[true, true, true, true, true, true, true, true, true] rfl rfl (one_of HT_.out (by kernel_rfl)) (by decide) (fun K hK => ?_)
    refine skip_ (w1 := ?_) (by rfl) rfl ?_ ?_
    rotate_left
    ·go_simp
     rfl
    refine hK.out _ _ ?_
    clear hK K
    refine done_ (done_of HT_.out (by kernel_rfl)) ?_
    have n0_ : Aside0 (Kd.R (Kd.int .i64) 3 (w109.setCell ⟨go94, (t292 : Int).toNat, none⟩ (.int .i64 a3)) w.heap.size (fun _ => True) (.slice (some ⟨go94, 0, none⟩) t288.length co106) y293) := ⟨sqy HQ110.out⟩
    have n1_ : Aside0 ((w109.setCell ⟨go94, (t292 : Int).toNat, none⟩ (.int .i64 a3)).heap[gb284]? = some (.cells #[.int .i64 a0_0, .slice A0_1 l0_1.length c0_1] 41 (0, 0))) := ⟨by refine sqt ?_; refine blk_far ?_ (by have h_ := Kd.R_ne HO290.out BK284.out (by decide); intro e_; exact h_ (by rw [e_]; rfl)) _; refine sqt ?_; exact BK284.out⟩
    have n2_ : Aside0 ((w109.setCell ⟨go94, (t292 : Int).toNat, none⟩ (.int .i64 a3)).heap[gb285]? = some (.cells #[.int .i64 0, .slice none 0 0] 41 (0, 0))) := ⟨by refine sqt ?_; refine blk_far ?_ (by have h_ := Kd.R_ne HO290.out BK285.out (by decide); intro e_; exact h_ (by rw [e_]; rfl)) _; refine sqt ?_; exact BK285.out⟩
    have n3_ : Aside0 ((w109.setCell ⟨go94, (t292 : Int).toNat, none⟩ (.int .i64 a3)).heap[gb291]? = some (.cells #[.int .i64 t287, .slice (some ⟨go94, 0, none⟩) t288.length co106] 41 (0, 0))) := ⟨by refine sqt ?_; refine blk_far ?_ (by have h_ := Kd.R_ne HO290.out BK291.out (by decide); intro e_; exact h_ (by rw [e_]; rfl)) _; refine sqt ?_; exact BK291.out⟩
    have n4_ : Aside0 (Below w.heap.size w (w109.setCell ⟨go94, (t292 : Int).toNat, none⟩ (.int .i64 a3))) := ⟨by repeat (first | (with_reducible first | exact HB.out | apply below_alloc | apply pw_below_drewN | apply below_drew1 | refine below_set ?_ GB94.out | refine below_set ?_ GE284.out | refine below_set ?_ GE285.out | refine below_set ?_ GE291.out) | exact HB.out)⟩
    (try clear HO290)
    (try clear BK284)
    (try clear BK285)
    (try clear BK291)
    (try clear HB)
    generalize (w109.setCell ⟨go94, (t292 : Int).toNat, none⟩ (.int .i64 a3)) = w111 at n0_ n1_ n2_ n3_ n4_ ⊢
    have HO290 := n0_
    have BK284 := n1_
    have BK285 := n2_
    have BK291 := n3_
    have HB := n4_
    clear n0_ n1_ n2_ n3_ n4_
    try go_wp2
    replace HO290 := Aside0.mk (Kd.R_drew HO290.out)
    replace BK284 := Aside0.mk (blk_drew BK284.out)
    replace BK285 := Aside0.mk (blk_drew BK285.out)
    replace BK291 := Aside0.mk (blk_drew BK291.out)
    replace HB := Aside0.mk (below_drew1 HB.out)
    refine start_ (n := 10) (S := fun w' => w'.cell? ⟨gb291, 0, none⟩ = some (.int .i64 t287) ∧ w'.cell? ⟨gb291, 1, none⟩ = some (.slice (some ⟨go94, 0, none⟩) t288.length co106) ∧ w'.cell? ⟨gb284, 0, none⟩ = some (.int .i64 a0_0) ∧ w'.cell? ⟨gb284, 1, none⟩ = some (.slice A0_1 l0_1.length c0_1)) (ds := [9]) #[false, false, false, false, false, false, false, false, false, false] (by kernel_rfl) rfl rfl sqz (fun hHeld => ?_); refine with_tabW impl_GapsMove.tab6 impl_GapsMove.bits6 (fun HT_ HW_ => ?_)
    generalize w111.drew = w112 at HO290 BK284 BK285 BK291 HB hHeld ⊢
    refine sqp HT_ 0 58 ?_
    refine sqp HT_ 3 61 ?_
    refine sqp HT_ 4 62 ?_
    refine sqp HT_ 6 64 ?_
    refine sqp HT_ 7 65 ?_
    refine sqw HT_ HW_ 1 59 hHeld ?_
    refine sqw HT_ HW_ 2 60 hHeld ?_
    refine sqo HT_ 5 63 (fun K hK => ?_)
    refine sqG Try.func118 #[.agg #[.int .i64 a0_0, .slice A0_1 l0_1.length c0_1], .int .i64 a2, .int .i64 a1] ?_
    with_reducible refine (impl_Gaps_at.calls a0_0 _ _ l0_1 a2 a1 t294 _ ?side1 ?side2 A95.out).mono ?_
    (case side1 => exact sqC (Kd.C_below HR0_1.out HB.out))
    (case side2 => exact HC0_1.out)
    rintro e w113 ⟨rfl, hb⟩
    refine ⟨_, rfl, ?_⟩
    have n0_ := Aside0.mk (Kd.R_below (sqy HO290.out) hb)
    have n1_ := sqb BK284 hb
    have n2_ := sqb BK285 hb
    have n3_ := sqb BK291 hb
    have n4_ := sqs HB hb
    clear HO290
    clear BK284
    clear BK285
    clear BK291
    clear HB
    have HO290 := n0_
    have BK284 := n1_
    have BK285 := n2_
    have BK291 := n3_
    have HB := n4_
    clear n0_ n1_ n2_ n3_ n4_
    (try clear hb)
    have p98 : 0 ≤ (t294 : Int) := sqd
    have q98 : (t294 : Int) < ((t288.length : Int) : Int) := sqd
    obtain ⟨hx98_0, hf98_0⟩ := Kd.R_celln 0 HO290.out (t294 : Int) p98 q98
    replace p98 := eq_true p98
    replace q98 := eq_true q98
    have HP114 := Kd.R_putn HO290.out (t294 : Int) (wrap64 (-a3))
    rw [← Ny295.out] at HP114
    have HQ114 := Aside0.mk HP114
    clear HP114
    refine hK.out _ _ sqz (fun hHeld => ?_)
    clear hK K
    refine sqnm ?_
    refine sqp HT_ 8 66 ?_
    refine last_ (i := 9) (N := none) #[true, true, true, true, true, true, true, true, true, true] rfl rfl (one_of HT_.out (by kernel_rfl)) (by decide) (fun K hK => ?_)
    refine skip_ (w1 := ?_) (by rfl) rfl ?_ ?_
    rotate_left
    ·go_simp
     rfl
    refine hK.out _ _ ?_
    clear hK K
    refine done_ (done_of HT_.out (by kernel_rfl)) ?_
    have n0_ : Aside0 (Kd.R (Kd.int .i64) 3 (w113.setCell ⟨go94, (t294 : Int).toNat, none⟩ (.int .i64 (wrap64 (-a3)))) w.heap.size (fun _ => True) (.slice (some ⟨go94, 0, none⟩) t288.length co106) y295) := ⟨sqy HQ114.out⟩
    have n1_ : Aside0 ((w113.setCell ⟨go94, (t294 : Int).toNat, none⟩ (.int .i64 (wrap64 (-a3)))).heap[gb284]? = some (.cells #[.int .i64 a0_0, .slice A0_1 l0_1.length c0_1] 41 (0, 0))) := ⟨by refine sqt ?_; refine blk_far ?_ (by have h_ := Kd.R_ne HO290.out BK284.out (by decide); intro e_; exact h_ (by rw [e_]; rfl)) _; refine sqt ?_; exact BK284.out⟩
    have n2_ : Aside0 ((w113.setCell ⟨go94, (t294 : Int).toNat, none⟩ (.int .i64 (wrap64 (-a3)))).heap[gb285]? = some (.cells #[.int .i64 0, .slice none 0 0] 41 (0, 0))) := ⟨by refine sqt ?_; refine blk_far ?_ (by have h_ := Kd.R_ne HO290.out BK285.out (by decide); intro e_; exact h_ (by rw [e_]; rfl)) _; refine sqt ?_; exact BK285.out⟩
    have n3_ : Aside0 ((w113.setCell ⟨go94, (t294 : Int).toNat, none⟩ (.int .i64 (wrap64 (-a3)))).heap[gb291]? = some (.cells #[.int .i64 t287, .slice (some ⟨go94, 0, none⟩) t288.length co106] 41 (0, 0))) := ⟨by refine sqt ?_; refine blk_far ?_ (by have h_ := Kd.R_ne HO290.out BK291.out (by decide); intro e_; exact h_ (by rw [e_]; rfl)) _; refine sqt ?_; exact BK291.out⟩
    have n4_ : Aside0 (Below w.heap.size w (w113.setCell ⟨go94, (t294 : Int).toNat, none⟩ (.int .i64 (wrap64 (-a3))))) := ⟨by repeat (first | (with_reducible first | exact HB.out | apply below_alloc | apply pw_below_drewN | apply below_drew1 | refine below_set ?_ GB94.out | refine below_set ?_ GE284.out | refine below_set ?_ GE285.out | refine below_set ?_ GE291.out) | exact HB.out)⟩
    (try clear HO290)
    (try clear BK284)
    (try clear BK285)
    (try clear BK291)
    (try clear HB)
    generalize (w113.setCell ⟨go94, (t294 : Int).toNat, none⟩ (.int .i64 (wrap64 (-a3)))) = w115 at n0_ n1_ n2_ n3_ n4_ ⊢
    have HO290 := n0_
    have BK284 := n1_
    have BK285 := n2_
    have BK291 := n3_
    have HB := n4_
    clear n0_ n1_ n2_ n3_ n4_
    obtain ⟨hcz116_0, hcz116_1, hfz116_0, hfz116_1⟩ := sqc2 BK291
    obtain ⟨hcz117_0, hcz117_1, hfz117_0, hfz117_1⟩ := sqc2 BK285
    try go_wp2
    refine bodyPost_ret (results_cell_row rfl _ _ gb285 41 #[.int .i64 t287, .slice (some ⟨go94, 0, none⟩) t288.length co106] (0, 0) _ rfl (by refine sqt ?_; refine blk_put (cs := #[.int .i64 t287, .slice none 0 0]) ?_ 1 _ rfl; refine sqt ?_; refine blk_put (cs := #[.int .i64 0, .slice none 0 0]) ?_ 0 _ rfl; refine sqt ?_; exact BK285.out) Try.underlying41 rfl (by kernel_rfl)) rfl ?_
    exact ⟨_, by first | rfl | (simp [errW_none, errW_some] <;> rfl) | (simp [*, errW_none, errW_some] <;> rfl), by (with_reducible repeat (first | apply Kd.R_alloc | apply Kd.R_drewN | apply Kd.R_drew)); exact Kd.R_mono (Kd.R_far (p := ⟨gb285, 1, none⟩) (Kd.R_far (p := ⟨gb285, 0, none⟩) (Kd.R_types HO290.out BK285.out (by decide)) (fun _ hk => hk.2) (.int .i64 t287)) (fun _ hk => hk.2) (.slice (some ⟨go94, 0, none⟩) t288.length co106)) (fun _ hk => trivial), by repeat (first | (with_reducible first | exact HB.out | apply below_alloc | apply pw_below_drewN | apply below_drew1 | refine below_set ?_ GE284.out | refine below_set ?_ GE285.out | refine below_set ?_ GE291.out) | exact HB.out)⟩
   have c44b0 : (a1 == a2) = true := beq_iff_eq.mpr c44
   have c44b1 : (a1 != a2) = false := bne_eq_false_iff_eq.mpr c44
   clear c44
   replace H := sqbi H
   obtain ⟨⟨t296, t297⟩, A45, H⟩ := H
   replace H : (impl_GapsMove.l0 kj4 a1 a3 (wrap64 (a0_0 + 1)) 0 a0_0 l0_1 t296 t297) = some (r1, r2) := H
   have H' := Aside0.mk H
   clear H
   have hnb46 := NB284_285.out
   have hnc46 := NB285_284.out
   obtain ⟨hcz47_0, hcz47_1, hfz47_0, hfz47_1⟩ := sqc2 BK284
   go_wp2_with (first | ((with_reducible refine gate_callee (f := 111) rfl ?_); refine sqL (some 69) Try.func111 #[.agg #[.int .i64 a0_0, .slice A0_1 l0_1.length c0_1]] ?_; (with_reducible refine (impl_Gaps_clone.calls a0_0 _ _ l0_1 t296 t297 _ ?side1 ?side2 A45.out).mono ?_); (case side1 => exact sqC (Kd.C_below HR0_1.out HB.out)); (case side2 => exact HC0_1.out); rintro e w48 ⟨v298, rfl, ho0, hb⟩; refine ⟨_, rfl, ?_⟩; have HO299 := Aside0.mk (Kd.R_lower ho0 (below_size (sqB HB))); refine sqM2 BK284 BK285 hb ?_; clear BK284 BK285; intro BK284 BK285; replace HB := sqs HB hb; (try clear hb); (try clear hb2); (try clear hk); (try clear hi); (try clear ho0)) | ((with_reducible refine gate_dst (N := 10) rfl ?_); refine sqx 10 #[.int .i64 0, .slice none 0 0] 41 ?_; intro gb300 hg w49 hbox hb; have n0_ := Aside0.mk (Kd.R_below (sqy HO299.out) hb); have n1_ := sqb BK284 hb; have n2_ := sqb BK285 hb; have n3_ := sqs HB hb; have n4_ := Aside0.mk (hbox); have n5_ := sqg HB hg; have n6_ := sqg HB hg; have n7_ := sqn BK284 hg; have n8_ := sqm BK284 hg; have n9_ := sqn BK285 hg; have n10_ := sqm BK285 hg; clear HO299; clear BK284; clear BK285; clear HB; have HO299 := n0_; have BK284 := n1_; have BK285 := n2_; have HB := n3_; have BK300 := n4_; have GW300 := n5_; have GE300 := n6_; have NB284_300 := n7_; have NB300_284 := n8_; have NB285_300 := n9_; have NB300_285 := n10_; clear n0_ n1_ n2_ n3_ n4_ n5_ n6_ n7_ n8_ n9_ n10_; clear hb hbox hg; have hnb50 := NB300_284.out; have hnc50 := NB284_300.out; have hnb51 := NB300_285.out; have hnc51 := NB285_300.out; obtain ⟨hcz52_0, hcz52_1, hfz52_0, hfz52_1⟩ := sqc2 BK300; obtain ⟨Ao53, co53, eo53⟩ := Kd.R_slice HO299.out; subst eo53; obtain ⟨hcz54_0, hcz54_1, hfz54_0, hfz54_1⟩ := sqc2 BK284))
   go_loopg [73] kj4 (fun kq v73 w' => ∃ (x73_2 : Int) (x301001_2 : List Int) (u301001 : Value), v73 = .int .i64 x73_2 ∧ Aside0 (impl_GapsMove.l0 kq a1 a3 (wrap64 (a0_0 + 1)) x73_2 a0_0 l0_1 t296 x301001_2 = some (r1, r2)) ∧ Aside0 (kq ≤ kj4) ∧ Aside0 (Kd.R (Kd.int .i64) 3 w' w.heap.size (fun _ => True) u301001 x301001_2) ∧ Aside0 (w'.heap[gb284]? = some (.cells #[.int .i64 a0_0, (.slice A0_1 l0_1.length c0_1)] 41 (0, 0))) ∧ Aside0 (w'.heap[gb285]? = some (.cells #[.int .i64 0, (.slice none 0 0)] 41 (0, 0))) ∧ Aside0 (w'.heap[gb300]? = some (.cells #[.int .i64 t296, u301001] 41 (0, 0))) ∧ Aside0 (Below w.heap.size w w'))
   case atStart => exact ⟨(0), (t297), (.slice Ao53 t297.length co53), (by first | rfl | (simp; done) | (simp [*]; done)), H', ⟨Nat.le_refl _⟩, ⟨by (with_reducible repeat (first | apply Kd.R_alloc | apply Kd.R_drewN | apply Kd.R_drew)); exact Kd.R_mono (Kd.R_far (p := ⟨gb300, 1, none⟩) (Kd.R_far (p := ⟨gb300, 0, none⟩) (Kd.R_types HO299.out BK300.out (by decide)) (fun _ hk => hk.2) (.int .i64 t296)) (fun _ hk => hk.2) (.slice Ao53 t297.length co53)) (fun _ hk => trivial)⟩, ⟨by refine sqt ?_; refine blk_far ?_ NB284_300.out _; refine sqt ?_; refine blk_far ?_ NB284_300.out _; refine sqt ?_; exact BK284.out⟩, ⟨by refine sqt ?_; refine blk_far ?_ NB285_300.out _; refine sqt ?_; refine blk_far ?_ NB285_300.out _; refine sqt ?_; exact BK285.out⟩, ⟨by refine sqt ?_; refine blk_put (cs := #[.int .i64 t296, .slice none 0 0]) ?_ 1 _ rfl; refine sqt ?_; refine blk_put (cs := #[.int .i64 0, .slice none 0 0]) ?_ 0 _ rfl; refine sqt ?_; exact BK300.out⟩, sqh HB⟩
   case round =>
    clear H'
    obtain ⟨x73_2, x301001_2, u301001, rfl, HA, HK2, HO_301001, BK284, BK285, BK300, HB⟩ := hrel
    cases gk with
    | zero => exact absurd HA.out (by simp [impl_GapsMove.l0])
    | succ k2 =>
     have H := HA.out
     clear HA
     simp only [impl_GapsMove.l0] at H
     replace H := sqi H
     rcases H with ⟨c55, H⟩ | ⟨c55, H⟩
     ·have c55b0 := decide_eq_false c55
      clear c55
      simp only [Option.some.injEq, Prod.mk.injEq] at H
      obtain ⟨rfl, rfl⟩ := H
      have hnb84 := NB300_284.out
      have hnc84 := NB284_300.out
      have hnb85 := NB300_285.out
      have hnc85 := NB285_300.out
      obtain ⟨hcz86_0, hcz86_1, hfz86_0, hfz86_1⟩ := sqc2 BK300
      have hnb87 := NB285_284.out
      have hnc87 := NB284_285.out
      obtain ⟨hcz88_0, hcz88_1, hfz88_0, hfz88_1⟩ := sqc2 BK285
      obtain ⟨Ao89, co89, eo89⟩ := Kd.R_slice HO_301001.out
      subst eo89
      go_wp2
      refine bodyPost_ret (results_cell_row rfl _ _ gb285 41 #[.int .i64 t296, .slice Ao89 x301001_2.length co89] (0, 0) _ rfl (by refine sqt ?_; refine blk_put (cs := #[.int .i64 t296, .slice none 0 0]) ?_ 1 _ rfl; refine sqt ?_; refine blk_put (cs := #[.int .i64 0, .slice none 0 0]) ?_ 0 _ rfl; refine sqt ?_; exact BK285.out) Try.underlying41 rfl (by kernel_rfl)) rfl ?_
      exact ⟨_, by first | rfl | (simp [errW_none, errW_some] <;> rfl) | (simp [*, errW_none, errW_some] <;> rfl), by (with_reducible repeat (first | apply Kd.R_alloc | apply Kd.R_drewN | apply Kd.R_drew)); exact Kd.R_mono (Kd.R_far (p := ⟨gb285, 1, none⟩) (Kd.R_far (p := ⟨gb285, 0, none⟩) (Kd.R_types HO_301001.out BK285.out (by decide)) (fun _ hk => hk.2) (.int .i64 t296)) (fun _ hk => hk.2) (.slice Ao89 x301001_2.length co89)) (fun _ hk => trivial), by repeat (first | (with_reducible first | exact HB.out | apply below_alloc | apply pw_below_drewN | apply below_drew1 | refine below_set ?_ GE284.out | refine below_set ?_ GE285.out | refine below_set ?_ GE300.out) | exact HB.out)⟩
     have c55b0 := decide_eq_true c55
     clear c55
     replace H := sqj H
     rcases H with ⟨c56, H⟩ | ⟨c56, H⟩
     ·have c56b0 : (x73_2 == a1) = true := beq_iff_eq.mpr c56
      have c56b1 : (x73_2 != a1) = false := bne_eq_false_iff_eq.mpr c56
      clear c56
      have H' := Aside0.mk H
      clear H
      go_wp2
      go_roundg k2
      case measure => have := HJ4.out; have := HK2.out; omega
      case rel => exact ⟨(wrap64 (x73_2 + 1)), (x301001_2), (u301001), (by first | rfl | (simp; done) | (simp [*]; done)), H', ⟨by have := HJ4.out; have := HK2.out; omega⟩, ⟨sqy HO_301001.out⟩, sqk BK284, sqk BK285, sqk BK300, sqh HB⟩
     have c56b0 : (x73_2 == a1) = false := beq_eq_false_iff_ne.mpr c56
     have c56b1 : (x73_2 != a1) = true := bne_iff_ne.mpr c56
     replace H := sqbi H
     obtain ⟨t301, A57, H⟩ := H
     replace H : ((impl_Gaps_at.f a0_0 l0_1 a1 x73_2).bind fun t302 => (if 0 ≤ t302 then (if t302 < (l0_1.length : Int) then ((impl_gapsTogether.f (rd l0_1 t302) a3).bind fun t304 => (if 0 ≤ t301 then (if t301 < (x301001_2.length : Int) then ((impl_Gaps_at.f a0_0 l0_1 x73_2 a1).bind fun t306 => ((impl_Gaps_at.f a0_0 l0_1 x73_2 a1).bind fun t307 => (if 0 ≤ t307 then (if t307 < (l0_1.length : Int) then ((impl_gapsTogether.f (rd l0_1 t307) (wrap64 (-a3))).bind fun t309 => (if 0 ≤ t306 then (if t306 < (x301001_2.length : Int) then (impl_GapsMove.l0 k2 a1 a3 (wrap64 (a0_0 + 1)) (wrap64 (x73_2 + 1)) a0_0 l0_1 t296 ((x301001_2.set (t301 : Int).toNat (mx t304 (-1099511627776))).set (t306 : Int).toNat (mx t309 (-1099511627776)))) else (none)) else (none))) else (none)) else (none)))) else (none)) else (none))) else (none)) else (none))) = some (r1, r2) := H
     replace H := sqbi H
     obtain ⟨t302, A58, H⟩ := H
     replace H : (if 0 ≤ t302 then (if t302 < (l0_1.length : Int) then ((impl_gapsTogether.f (rd l0_1 t302) a3).bind fun t304 => (if 0 ≤ t301 then (if t301 < (x301001_2.length : Int) then ((impl_Gaps_at.f a0_0 l0_1 x73_2 a1).bind fun t306 => ((impl_Gaps_at.f a0_0 l0_1 x73_2 a1).bind fun t307 => (if 0 ≤ t307 then (if t307 < (l0_1.length : Int) then ((impl_gapsTogether.f (rd l0_1 t307) (wrap64 (-a3))).bind fun t309 => (if 0 ≤ t306 then (if t306 < (x301001_2.length : Int) then (impl_GapsMove.l0 k2 a1 a3 (wrap64 (a0_0 + 1)) (wrap64 (x73_2 + 1)) a0_0 l0_1 t296 ((x301001_2.set (t301 : Int).toNat (mx t304 (-1099511627776))).set (t306 : Int).toNat (mx t309 (-1099511627776)))) else (none)) else (none))) else (none)) else (none)))) else (none)) else (none))) else (none)) else (none)) = some (r1, r2) := H
     replace H := sqi H
     rcases H with ⟨c59, H⟩ | ⟨c59, H⟩
     ·exact absurd H (by simp)
     have c59b0 := decide_eq_true c59
     clear c59
     replace H := sqi H
     rcases H with ⟨c60, H⟩ | ⟨c60, H⟩
     ·exact absurd H (by simp)
     have c60b0 := decide_eq_true c60
     clear c60
     replace H := sqbi H
     obtain ⟨t304, A61, H⟩ := H
     replace H : (if 0 ≤ t301 then (if t301 < (x301001_2.length : Int) then ((impl_Gaps_at.f a0_0 l0_1 x73_2 a1).bind fun t306 => ((impl_Gaps_at.f a0_0 l0_1 x73_2 a1).bind fun t307 => (if 0 ≤ t307 then (if t307 < (l0_1.length : Int) then ((impl_gapsTogether.f (rd l0_1 t307) (wrap64 (-a3))).bind fun t309 => (if 0 ≤ t306 then (if t306 < (x301001_2.length : Int) then (impl_GapsMove.l0 k2 a1 a3 (wrap64 (a0_0 + 1)) (wrap64 (x73_2 + 1)) a0_0 l0_1 t296 ((x301001_2.set (t301 : Int).toNat (mx t304 (-1099511627776))).set (t306 : Int).toNat (mx t309 (-1099511627776)))) else (none)) else (none))) else (none)) else (none)))) else (none)) else (none)) = some (r1, r2) := H
     obtain ⟨ji62, hji62⟩ : ∃ j_ : Int, (mx t304 (-1099511627776)) = j_ := ⟨_, rfl⟩
     replace H : (if 0 ≤ t301 then (if t301 < (x301001_2.length : Int) then ((impl_Gaps_at.f a0_0 l0_1 x73_2 a1).bind fun t306 => ((impl_Gaps_at.f a0_0 l0_1 x73_2 a1).bind fun t307 => (if 0 ≤ t307 then (if t307 < (l0_1.length : Int) then ((impl_gapsTogether.f (rd l0_1 t307) (wrap64 (-a3))).bind fun t309 => (if 0 ≤ t306 then (if t306 < (x301001_2.length : Int) then (impl_GapsMove.l0 k2 a1 a3 (wrap64 (a0_0 + 1)) (wrap64 (x73_2 + 1)) a0_0 l0_1 t296 ((x301001_2.set (t301 : Int).toNat (ji62)).set (t306 : Int).toNat (mx t309 (-1099511627776)))) else (none)) else (none))) else (none)) else (none)))) else (none)) else (none)) = some (r1, r2) := by first | (rw [hji62] at H; exact H) | (simp only [hji62] at H ⊢; exact H)
     (try rw [hji62] at A57)
     (try rw [hji62] at A58)
     (try rw [hji62] at A61)
     have hji62_ : (if t304 < (-1099511627776) then (-1099511627776) else t304) = ji62 := hji62
     replace H := sqi H
     rcases H with ⟨c63, H⟩ | ⟨c63, H⟩
     ·exact absurd H (by simp)
     have c63b0 := decide_eq_true c63
     clear c63
     replace H := sqi H
     rcases H with ⟨c64, H⟩ | ⟨c64, H⟩
     ·exact absurd H (by simp)
     have c64b0 := decide_eq_true c64
     clear c64
     obtain ⟨y305, hy305⟩ : ∃ y_ : List Int, y_ = (x301001_2.set (t301 : Int).toNat (ji62)) := ⟨_, rfl⟩
     replace H : ((impl_Gaps_at.f a0_0 l0_1 x73_2 a1).bind fun t306 => ((impl_Gaps_at.f a0_0 l0_1 x73_2 a1).bind fun t307 => (if 0 ≤ t307 then (if t307 < (l0_1.length : Int) then ((impl_gapsTogether.f (rd l0_1 t307) (wrap64 (-a3))).bind fun t309 => (if 0 ≤ t306 then (if t306 < (x301001_2.length : Int) then (impl_GapsMove.l0 k2 a1 a3 (wrap64 (a0_0 + 1)) (wrap64 (x73_2 + 1)) a0_0 l0_1 t296 (y305.set (t306 : Int).toNat (mx t309 (-1099511627776)))) else (none)) else (none))) else (none)) else (none)))) = some (r1, r2) := by first | (rw [hy305]; with_reducible exact H) | (have H2_ := (Option.bind_some _ _).symm.trans H; rw [hy305]; with_reducible exact H2_) | (have H2_ := (Option.bind_some _ _).symm.trans H; with_reducible exact H2_) | with_reducible exact H | (rw [hy305]; exact H) | exact H
     have Ny305 := Aside0.mk hy305
     clear hy305
     replace H := sqbi H
     obtain ⟨t306, A66, H⟩ := H
     replace H : ((impl_Gaps_at.f a0_0 l0_1 x73_2 a1).bind fun t307 => (if 0 ≤ t307 then (if t307 < (l0_1.length : Int) then ((impl_gapsTogether.f (rd l0_1 t307) (wrap64 (-a3))).bind fun t309 => (if 0 ≤ t306 then (if t306 < (x301001_2.length : Int) then (impl_GapsMove.l0 k2 a1 a3 (wrap64 (a0_0 + 1)) (wrap64 (x73_2 + 1)) a0_0 l0_1 t296 (y305.set (t306 : Int).toNat (mx t309 (-1099511627776)))) else (none)) else (none))) else (none)) else (none))) = some (r1, r2) := H
     replace H := sqbi H
     obtain ⟨t307, A67, H⟩ := H
     replace H : (if 0 ≤ t307 then (if t307 < (l0_1.length : Int) then ((impl_gapsTogether.f (rd l0_1 t307) (wrap64 (-a3))).bind fun t309 => (if 0 ≤ t306 then (if t306 < (x301001_2.length : Int) then (impl_GapsMove.l0 k2 a1 a3 (wrap64 (a0_0 + 1)) (wrap64 (x73_2 + 1)) a0_0 l0_1 t296 (y305.set (t306 : Int).toNat (mx t309 (-1099511627776)))) else (none)) else (none))) else (none)) else (none)) = some (r1, r2) := H
     replace H := sqi H
     rcases H with ⟨c68, H⟩ | ⟨c68, H⟩
     ·exact absurd H (by simp)
     have c68b0 := decide_eq_true c68
     clear c68
     replace H := sqi H
     rcases H with ⟨c69, H⟩ | ⟨c69, H⟩
     ·exact absurd H (by simp)
     have c69b0 := decide_eq_true c69
     clear c69
     replace H := sqbi H
     obtain ⟨t309, A70, H⟩ := H
     replace H : (if 0 ≤ t306 then (if t306 < (x301001_2.length : Int) then (impl_GapsMove.l0 k2 a1 a3 (wrap64 (a0_0 + 1)) (wrap64 (x73_2 + 1)) a0_0 l0_1 t296 (y305.set (t306 : Int).toNat (mx t309 (-1099511627776)))) else (none)) else (none)) = some (r1, r2) := H
     obtain ⟨ji71, hji71⟩ : ∃ j_ : Int, (mx t309 (-1099511627776)) = j_ := ⟨_, rfl⟩
     replace H : (if 0 ≤ t306 then (if t306 < (x301001_2.length : Int) then (impl_GapsMove.l0 k2 a1 a3 (wrap64 (a0_0 + 1)) (wrap64 (x73_2 + 1)) a0_0 l0_1 t296 (y305.set (t306 : Int).toNat (ji71))) else (none)) else (none)) = some (r1, r2) := by first | (rw [hji71] at H; exact H) | (simp only [hji71] at H ⊢; exact H)
     (try rw [hji71] at A57)
     (try rw [hji71] at A58)
     (try rw [hji71] at A61)
     (try rw [hji71] at A66)
     (try rw [hji71] at A67)
     (try rw [hji71] at A70)
     have hji71_ : (if t309 < (-1099511627776) then (-1099511627776) else t309) = ji71 := hji71
     replace H := sqi H
     rcases H with ⟨c72, H⟩ | ⟨c72, H⟩
     ·exact absurd H (by simp)
     have c72b0 := decide_eq_true c72
     clear c72
     replace H := sqi H
     rcases H with ⟨c73, H⟩ | ⟨c73, H⟩
     ·exact absurd H (by simp)
     have c73b0 := decide_eq_true c73
     clear c73
     obtain ⟨y310, hy310⟩ : ∃ y_ : List Int, y_ = (y305.set (t306 : Int).toNat (ji71)) := ⟨_, rfl⟩
     replace H : (impl_GapsMove.l0 k2 a1 a3 (wrap64 (a0_0 + 1)) (wrap64 (x73_2 + 1)) a0_0 l0_1 t296 y310) = some (r1, r2) := by first | (rw [hy310]; with_reducible exact H) | (have H2_ := (Option.bind_some _ _).symm.trans H; rw [hy310]; with_reducible exact H2_) | (have H2_ := (Option.bind_some _ _).symm.trans H; with_reducible exact H2_) | with_reducible exact H | (rw [hy310]; exact H) | exact H
     have Ny310 := Aside0.mk hy310
     clear hy310
     have H' := Aside0.mk H
     clear H
     try go_wp2
     replace HO_301001 := Aside0.mk (Kd.R_drew HO_301001.out)
     replace BK284 := Aside0.mk (blk_drew BK284.out)
     replace BK285 := Aside0.mk (blk_drew BK285.out)
     replace BK300 := Aside0.mk (blk_drew BK300.out)
     replace HB := Aside0.mk (below_drew1 HB.out)
     have p303 : 0 ≤ (t302 : Int) := sqd
     have q303 : t302 < (l0_1.length : Int) := sqd
     obtain ⟨ad303, e303, hx303_0⟩ := Kd.at_int HR0_1.out t302 p303 q303
     have hw303_0 := hx303_0
     cases e303
     replace hx303_0 := sqa HB hx303_0
     replace p303 := eq_true p303
     replace q303 := eq_true q303
     refine start_ (n := 19) (S := fun w' => w'.cell? ⟨gb300, 0, none⟩ = some (.int .i64 t296) ∧ w'.cell? ⟨gb300, 1, none⟩ = some (u301001) ∧ w'.cell? ⟨gb284, 0, none⟩ = some (.int .i64 a0_0) ∧ w'.cell? ⟨gb284, 1, none⟩ = some (.slice (some ad303) l0_1.length c0_1) ∧ w'.cell? (ad303.add (t302).toNat) = some (.int .i64 (rd l0_1 t302))) (ds := [18]) #[false, false, false, false, false, false, false, false, false, false, false, false, false, false, false, false, false, false, false] (by kernel_rfl) rfl rfl ⟨(blk_cell BK300.out 0).trans rfl, (blk_cell BK300.out 1).trans rfl, (blk_cell BK284.out 0).trans rfl, (blk_cell BK284.out 1).trans rfl, (sqa HB hw303_0 :)⟩ (fun hHeld => ?_); refine with_tabW impl_GapsMove.tab13 impl_GapsMove.bits13 (fun HT_ HW_ => ?_)
     generalize wr.drew = w75 at HO_301001 BK284 BK285 BK300 HB hx303_0 hHeld ⊢
     refine sqp HT_ 0 79 ?_
     refine sqp HT_ 3 82 ?_
     refine sqp HT_ 4 83 ?_
     refine sqp HT_ 6 85 ?_
     refine sqp HT_ 9 88 ?_
     refine sqp HT_ 10 89 ?_
     refine sqp HT_ 14 93 ?_
     refine sqw HT_ HW_ 1 80 hHeld ?_
     refine sqw HT_ HW_ 2 81 hHeld ?_
     refine sqw HT_ HW_ 7 86 hHeld ?_
     refine sqw HT_ HW_ 8 87 hHeld ?_
     refine sqo HT_ 5 84 (fun K hK => ?_)
     refine sqG Try.func118 #[.agg #[.int .i64 a0_0, .slice (some ad303) l0_1.length c0_1], .int .i64 a1, .int .i64 x73_2] ?_
     with_reducible refine (impl_Gaps_at.calls a0_0 _ _ l0_1 a1 x73_2 t301 _ ?side1 ?side2 A57.out).mono ?_
     (case side1 => exact sqC (Kd.C_below HR0_1.out HB.out))
     (case side2 => exact HC0_1.out)
     rintro e w76 ⟨rfl, hb⟩
     refine ⟨_, rfl, ?_⟩
     have n0_ := Aside0.mk (Kd.R_below (sqy HO_301001.out) hb)
     have n1_ := sqb BK284 hb
     have n2_ := sqb BK285 hb
     have n3_ := sqb BK300 hb
     have n4_ := sqs HB hb
     clear HO_301001
     clear BK284
     clear BK285
     clear BK300
     clear HB
     have HO_301001 := n0_
     have BK284 := n1_
     have BK285 := n2_
     have BK300 := n3_
     have HB := n4_
     clear n0_ n1_ n2_ n3_ n4_
     (try clear hb)
     refine hK.out _ _ ⟨(blk_cell BK300.out 0).trans rfl, (blk_cell BK300.out 1).trans rfl, (blk_cell BK284.out 0).trans rfl, (blk_cell BK284.out 1).trans rfl, (sqa HB hw303_0 :)⟩ (fun hHeld => ?_)
     clear hK K
     refine sqnm ?_
     refine sqo HT_ 11 90 (fun K hK => ?_)
     refine sqG Try.func118 #[.agg #[.int .i64 a0_0, .slice (some ad303) l0_1.length c0_1], .int .i64 a1, .int .i64 x73_2] ?_
     with_reducible refine (impl_Gaps_at.calls a0_0 _ _ l0_1 a1 x73_2 t302 _ ?side1 ?side2 A58.out).mono ?_
     (case side1 => exact sqC (Kd.C_below HR0_1.out HB.out))
     (case side2 => exact HC0_1.out)
     rintro e w77 ⟨rfl, hb⟩
     refine ⟨_, rfl, ?_⟩
     have n0_ := Aside0.mk (Kd.R_below (sqy HO_301001.out) hb)
     have n1_ := sqb BK284 hb
     have n2_ := sqb BK285 hb
     have n3_ := sqb BK300 hb
     have n4_ := sqs HB hb
     clear HO_301001
     clear BK284
     clear BK285
     clear BK300
     clear HB
     have HO_301001 := n0_
     have BK284 := n1_
     have BK285 := n2_
     have BK300 := n3_
     have HB := n4_
     clear n0_ n1_ n2_ n3_ n4_
     (try clear hb)
     refine hK.out _ _ ⟨(blk_cell BK300.out 0).trans rfl, (blk_cell BK300.out 1).trans rfl, (blk_cell BK284.out 0).trans rfl, (blk_cell BK284.out 1).trans rfl, (sqa HB hw303_0 :)⟩ (fun hHeld => ?_)
     clear hK K
     refine sqnm ?_
     refine sqp HT_ 12 91 ?_
     refine sqw HT_ HW_ 13 92 hHeld ?_
     refine sqo HT_ 15 94 (fun K hK => ?_)
     refine sqG Try.func112 #[.int .i64 (rd l0_1 t302), .int .i64 a3] ?_
     with_reducible refine (impl_gapsTogether.calls (rd l0_1 t302) a3 t304 _ A61.out).mono ?_
     rintro e w' ⟨rfl, ⟨nd, rfl⟩⟩
     refine ⟨_, rfl, ?_⟩
     have p65 : 0 ≤ (t301 : Int) := sqd
     have q65 : (t301 : Int) < ((x301001_2.length : Int) : Int) := sqd
     obtain ⟨go65, co65, eo65, gb65, gl65, cl65, HG65⟩ := Kd.R_form HO_301001.out (by omega)
     (first | cases eo65 | (injection eo65 with ea_ en_ ec_; (first | subst ea_ | (injection ea_ with ea_; subst ea_)); subst ec_; clear en_))
     have GB65 := Aside0.mk gb65
     have GG65 := Aside0.mk HG65
     clear gb65 gl65 HG65
     obtain ⟨hx65_0, hf65_0⟩ := Kd.R_celln 0 HO_301001.out (t301 : Int) p65 q65
     replace p65 := eq_true p65
     replace q65 := eq_true q65
     have HP78 := Kd.R_putn HO_301001.out (t301 : Int) ji62
     rw [← Ny305.out] at HP78
     have HQ78 := Aside0.mk HP78
     clear HP78
     refine hK.out _ _ ⟨(blk_cell BK300.out 0).trans rfl, (blk_cell BK300.out 1).trans rfl, (blk_cell BK284.out 0).trans rfl, (blk_cell BK284.out 1).trans rfl, (sqa HB hw303_0 :)⟩ (fun hHeld => ?_)
     clear hK K
     refine sqnm ?_
     refine sqp HT_ 16 95 ?_
     refine sqp HT_ 17 96 ?_
     refine last_ (i := 18) (N := none) #[true, true, true, true, true, true, true, true, true, true, true, true, true, true, true, true, true, true, true] rfl rfl (one_of HT_.out (by kernel_rfl)) (by decide) (fun K hK => ?_)
     refine skip_ (w1 := ?_) (by rfl) rfl ?_ ?_
     rotate_left
     ·go_simp
      rfl
     refine hK.out _ _ ?_
     clear hK K
     refine done_ (done_of HT_.out (by kernel_rfl)) ?_
     try go_wp2
     have n0_ : Aside0 (Kd.R (Kd.int .i64) 3 ((w77.drewN nd).setCell ⟨go65, (t301 : Int).toNat, none⟩ (.int .i64 ji62)) w.heap.size (fun _ => True) (.slice (some ⟨go65, 0, none⟩) x301001_2.length co65) y305) := ⟨sqy HQ78.out⟩
     have n1_ : Aside0 (((w77.drewN nd).setCell ⟨go65, (t301 : Int).toNat, none⟩ (.int .i64 ji62)).heap[gb284]? = some (.cells #[.int .i64 a0_0, .slice (some ad303) l0_1.length c0_1] 41 (0, 0))) := ⟨by refine sqt ?_; refine blk_far ?_ (by have h_ := Kd.R_ne HO_301001.out BK284.out (by decide); intro e_; exact h_ (by rw [e_]; rfl)) _; refine sqt ?_; exact BK284.out⟩
     have n2_ : Aside0 (((w77.drewN nd).setCell ⟨go65, (t301 : Int).toNat, none⟩ (.int .i64 ji62)).heap[gb285]? = some (.cells #[.int .i64 0, .slice none 0 0] 41 (0, 0))) := ⟨by refine sqt ?_; refine blk_far ?_ (by have h_ := Kd.R_ne HO_301001.out BK285.out (by decide); intro e_; exact h_ (by rw [e_]; rfl)) _; refine sqt ?_; exact BK285.out⟩
     have n3_ : Aside0 (((w77.drewN nd).setCell ⟨go65, (t301 : Int).toNat, none⟩ (.int .i64 ji62)).heap[gb300]? = some (.cells #[.int .i64 t296, .slice (some ⟨go65, 0, none⟩) x301001_2.length co65] 41 (0, 0))) := ⟨by refine sqt ?_; refine blk_far ?_ (by have h_ := Kd.R_ne HO_301001.out BK300.out (by decide); intro e_; exact h_ (by rw [e_]; rfl)) _; refine sqt ?_; exact BK300.out⟩
     have n4_ : Aside0 (Below w.heap.size w ((w77.drewN nd).setCell ⟨go65, (t301 : Int).toNat, none⟩ (.int .i64 ji62))) := ⟨by repeat (first | (with_reducible first | exact HB.out | apply below_alloc | apply pw_below_drewN | apply below_drew1 | refine below_set ?_ GB65.out | refine below_set ?_ GE284.out | refine below_set ?_ GE285.out | refine below_set ?_ GE300.out) | exact HB.out)⟩
     (try clear HO_301001)
     (try clear BK284)
     (try clear BK285)
     (try clear BK300)
     (try clear HB)
     generalize ((w77.drewN nd).setCell ⟨go65, (t301 : Int).toNat, none⟩ (.int .i64 ji62)) = w79 at n0_ n1_ n2_ n3_ n4_ ⊢
     have HO_301001 := n0_
     have BK284 := n1_
     have BK285 := n2_
     have BK300 := n3_
     have HB := n4_
     clear n0_ n1_ n2_ n3_ n4_
     (try (rw [drewN_self w79]; generalize hq_ : World.drewN w79 _ = w79; replace HO_301001 := sqv HO_301001 hq_; replace BK284 := sqq BK284 hq_; replace BK285 := sqq BK285 hq_; replace BK300 := sqq BK300 hq_; replace HB := sqr HB hq_; clear hq_; obtain ⟨hqz1_0, hqz1_1, hqf1_0, hqf1_1⟩ := sqc2 BK284; obtain ⟨hqz2_0, hqz2_1, hqf2_0, hqf2_1⟩ := sqc2 BK285; obtain ⟨hqz3_0, hqz3_1, hqf3_0, hqf3_1⟩ := sqc2 BK300))
     replace HO_301001 := Aside0.mk (Kd.R_drew HO_301001.out)
     replace BK284 := Aside0.mk (blk_drew BK284.out)
     replace BK285 := Aside0.mk (blk_drew BK285.out)
     replace BK300 := Aside0.mk (blk_drew BK300.out)
     replace HB := Aside0.mk (below_drew1 HB.out)
     have p308 : 0 ≤ (t307 : Int) := sqd
     have q308 : t307 < (l0_1.length : Int) := sqd
     obtain ⟨ad308, e308, hx308_0⟩ := Kd.at_int HR0_1.out t307 p308 q308
     have hw308_0 := hx308_0
     obtain rfl : ad303 = ad308 := (by injection e308)
     replace hx308_0 := sqa HB hx308_0
     replace p308 := eq_true p308
     replace q308 := eq_true q308
     refine start_ (n := 20) (S := fun w' => w'.cell? ⟨gb300, 0, none⟩ = some (.int .i64 t296) ∧ w'.cell? ⟨gb300, 1, none⟩ = some (.slice (some ⟨go65, 0, none⟩) x301001_2.length co65) ∧ w'.cell? ⟨gb284, 0, none⟩ = some (.int .i64 a0_0) ∧ w'.cell? ⟨gb284, 1, none⟩ = some (.slice (some ad303) l0_1.length c0_1) ∧ w'.cell? (ad303.add (t307).toNat) = some (.int .i64 (rd l0_1 t307))) (ds := [19]) #[false, false, false, false, false, false, false, false, false, false, false, false, false, false, false, false, false, false, false, false] (by kernel_rfl) rfl rfl ⟨(blk_cell BK300.out 0).trans rfl, (blk_cell BK300.out 1).trans rfl, (blk_cell BK284.out 0).trans rfl, (blk_cell BK284.out 1).trans rfl, (sqa HB hw308_0 :)⟩ (fun hHeld => ?_); refine with_tabW impl_GapsMove.tab14 impl_GapsMove.bits14 (fun HT_ HW_ => ?_)
     generalize w79.drew = w80 at HO_301001 BK284 BK285 BK300 HB HQ78 hx308_0 hHeld ⊢
     refine sqp HT_ 0 97 ?_
     refine sqp HT_ 3 100 ?_
     refine sqp HT_ 4 101 ?_
     refine sqp HT_ 6 103 ?_
     refine sqp HT_ 9 106 ?_
     refine sqp HT_ 10 107 ?_
     refine sqp HT_ 14 111 ?_
     refine sqp HT_ 15 112 ?_
     refine sqw HT_ HW_ 1 98 hHeld ?_
     refine sqw HT_ HW_ 2 99 hHeld ?_
     refine sqw HT_ HW_ 7 104 hHeld ?_
     refine sqw HT_ HW_ 8 105 hHeld ?_
     refine sqo HT_ 5 102 (fun K hK => ?_)
     refine sqG Try.func118 #[.agg #[.int .i64 a0_0, .slice (some ad303) l0_1.length c0_1], .int .i64 x73_2, .int .i64 a1] ?_
     with_reducible refine (impl_Gaps_at.calls a0_0 _ _ l0_1 x73_2 a1 t306 _ ?side1 ?side2 A66.out).mono ?_
     (case side1 => exact sqC (Kd.C_below HR0_1.out HB.out))
     (case side2 => exact HC0_1.out)
     rintro e w81 ⟨rfl, hb⟩
     refine ⟨_, rfl, ?_⟩
     have n0_ := Aside0.mk (Kd.R_below (sqy HO_301001.out) hb)
     have n1_ := sqb BK284 hb
     have n2_ := sqb BK285 hb
     have n3_ := sqb BK300 hb
     have n4_ := sqs HB hb
     clear HO_301001
     clear BK284
     clear BK285
     clear BK300
     clear HB
     have HO_301001 := n0_
     have BK284 := n1_
     have BK285 := n2_
     have BK300 := n3_
     have HB := n4_
     clear n0_ n1_ n2_ n3_ n4_
     (try clear hb)
     refine hK.out _ _ ⟨(blk_cell BK300.out 0).trans rfl, (blk_cell BK300.out 1).trans rfl, (blk_cell BK284.out 0).trans rfl, (blk_cell BK284.out 1).trans rfl, (sqa HB hw308_0 :)⟩ (fun hHeld => ?_)
     clear hK K
     refine sqnm ?_
     refine sqo HT_ 11 108 (fun K hK => ?_)
     refine sqG Try.func118 #[.agg #[.int .i64 a0_0, .slice (some ad303) l0_1.length c0_1], .int .i64 x73_2, .int .i64 a1] ?_
     with_reducible refine (impl_Gaps_at.calls a0_0 _ _ l0_1 x73_2 a1 t307 _ ?side1 ?side2 A67.out).mono ?_
     (case side1 => exact sqC (Kd.C_below HR0_1.out HB.out))
     (case side2 => exact HC0_1.out)
     rintro e w82 ⟨rfl, hb⟩
     refine ⟨_, rfl, ?_⟩
     have n0_ := Aside0.mk (Kd.R_below (sqy HO_301001.out) hb)
     have n1_ := sqb BK284 hb
     have n2_ := sqb BK285 hb
     have n3_ := sqb BK300 hb
     have n4_ := sqs HB hb
     clear HO_301001
     clear BK284
     clear BK285
     clear BK300
     clear HB
     have HO_301001 := n0_
     have BK284 := n1_
     have BK285 := n2_
     have BK300 := n3_
     have HB := n4_
     clear n0_ n1_ n2_ n3_ n4_
     (try clear hb)
     refine hK.out _ _ ⟨(blk_cell BK300.out 0).trans rfl, (blk_cell BK300.out 1).trans rfl, (blk_cell BK284.out 0).trans rfl, (blk_cell BK284.out 1).trans rfl, (sqa HB hw308_0 :)⟩ (fun hHeld => ?_)
     clear hK K
     refine sqnm ?_
     refine sqp HT_ 12 109 ?_
     refine sqw HT_ HW_ 13 110 hHeld ?_
     refine sqo HT_ 16 113 (fun K hK => ?_)
     refine sqG Try.func112 #[.int .i64 (rd l0_1 t307), .int .i64 (wrap64 (-a3))] ?_
     with_reducible refine (impl_gapsTogether.calls (rd l0_1 t307) (wrap64 (-a3)) t309 _ A70.out).mono ?_
     rintro e w' ⟨rfl, ⟨nd, rfl⟩⟩
     refine ⟨_, rfl, ?_⟩
     have p74 : 0 ≤ (t306 : Int) := sqd
     have q74 : (t306 : Int) < ((x301001_2.length : Int) : Int) := sqd
     obtain ⟨hx74_0, hf74_0⟩ := Kd.R_celln 0 HO_301001.out (t306 : Int) p74 q74
     replace p74 := eq_true p74
     replace q74 := eq_true q74
     have HP83 := Kd.R_putn HO_301001.out (t306 : Int) ji71
     rw [← Ny310.out] at HP83
     have HQ83 := Aside0.mk HP83
     clear HP83
     refine hK.out _ _ ⟨(blk_cell BK300.out 0).trans rfl, (blk_cell BK300.out 1).trans rfl, (blk_cell BK284.out 0).trans rfl, (blk_cell BK284.out 1).trans rfl, (sqa HB hw308_0 :)⟩ (fun hHeld => ?_)
     clear hK K
     refine sqnm ?_
     refine sqp HT_ 17 114 ?_
     refine sqp HT_ 18 115 ?_
     refine last_ (i := 19) (N := none) #[true, true, true, true, true, true, true, true, true, true, true, true, true, true, true, true, true, true, true, true] rfl rfl (one_of HT_.out (by kernel_rfl)) (by decide) (fun K hK => ?_)
     refine skip_ (w1 := ?_) (by rfl) rfl ?_ ?_
     rotate_left
     ·go_simp
      rfl
     refine hK.out _ _ ?_
     clear hK K
     refine done_ (done_of HT_.out (by kernel_rfl)) ?_
     try go_wp2
     go_roundg k2
     case measure => have := HJ4.out; have := HK2.out; omega
     case rel => exact ⟨(wrap64 (x73_2 + 1)), (y310), (.slice (some ⟨go65, 0, none⟩) x301001_2.length co65), (by first | rfl | (simp; done) | (simp [*]; done)), H', ⟨by have := HJ4.out; have := HK2.out; omega⟩, ⟨sqy HQ83.out⟩, ⟨by refine sqt ?_; refine blk_far ?_ (by have h_ := Kd.R_ne HO_301001.out BK284.out (by decide); intro e_; exact h_ (by rw [e_]; rfl)) _; refine sqt ?_; exact BK284.out⟩, ⟨by refine sqt ?_; refine blk_far ?_ (by have h_ := Kd.R_ne HO_301001.out BK285.out (by decide); intro e_; exact h_ (by rw [e_]; rfl)) _; refine sqt ?_; exact BK285.out⟩, ⟨by refine sqt ?_; refine blk_far ?_ (by have h_ := Kd.R_ne HO_301001.out BK300.out (by decide); intro e_; exact h_ (by rw [e_]; rfl)) _; refine sqt ?_; exact BK300.out⟩, ⟨by repeat (first | (with_reducible first | exact HB.out | apply below_alloc | apply pw_below_drewN | apply below_drew1 | refine below_set ?_ GB65.out | refine below_set ?_ GE284.out | refine below_set ?_ GE285.out | refine below_set ?_ GE300.out) | exact HB.out)⟩⟩

end Go.Proofs.Ytkekcenlleebeaa.PFnGapsDo
