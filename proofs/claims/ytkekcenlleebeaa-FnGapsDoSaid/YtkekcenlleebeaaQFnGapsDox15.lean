/- Functions of the program as plain Lean functions, and that calls of them come to what these tell. Conditions: those in each law. -/
import Derived.Test.YtkekcenlleebeaaSq
import Derived.Test.YtkekcenlleebeaaDFnGapsDo
import Derived.Test.YtkekcenlleebeaaQFnGapsDox0
import Derived.Test.YtkekcenlleebeaaQFnGapsDox5
import Derived.Test.YtkekcenlleebeaaQFnGapsDox6
import Derived.Test.YtkekcenlleebeaaQFnGapsDox10
namespace Go.Proofs.Ytkekcenlleebeaa.PFnGapsDo
open Go.RowKit Go.Proofs.Ytkekcenlleebeaa.Sq Go.Proofs.YtkekcenlleebeaaW.PrintWords Go.Proofs.YtkekcenlleebeaaW.PrintLast Go.Proofs.YtkekcenlleebeaaW.PrintMore
attribute [local go_sem] max2_int min2_int max_two min_two max_three min_three max_four min_four   -- for this text's walks alone
set_option linter.unusedVariables false
set_option linter.unusedSimpArgs false

/-! ### impl_GapsCut: function 50 -/
def impl_GapsCut.T4 : Bool × List (List Nat × List Nat) := (true, [([], []), ([0], [0]), ([], []), ([], []), ([], []), ([2, 3, 4], [2, 3, 4]), ([], []), ([6], [6]), ([], []), ([], []), ([], []), ([8, 9, 10, 5], [8, 9, 10]), ([7, 11], [7, 11]), ([12], [12]), ([], []), ([13, 14], [13, 14]), ([1, 5, 0, 1, 2, 3, 4, 5, 6, 7, 8, 9, 10, 11, 12, 13, 14, 15], [1, 5]), ([16, 15, 11, 0, 1, 2, 3, 4, 5, 6, 7, 8, 9, 10, 11, 12, 13, 14, 15], [15, 16])])
def impl_GapsCut.B4 : List Nat := [0, 1, 0, 0, 0, 28, 0, 64, 0, 0, 0, 1852, 4092, 8188, 0, 32764, 65535, 131071]
theorem impl_GapsCut.tab4 : rtab .any (opsOf Try.f50 4) = impl_GapsCut.T4 := by kernel_rfl
theorem impl_GapsCut.bits4 : waitsOk impl_GapsCut.T4.2 impl_GapsCut.B4 = true := by kernel_rfl
set_option maxHeartbeats 8000000 in
set_option maxRecDepth 100000 in
theorem impl_GapsCut.calls (k : Nat) (a0_0 : Int) (A0_1 : Option Addr) (c0_1 : Nat) (l0_1 : List Int) (a1 : Int) (a2 : Int) (a3 : Int) (r1 : Int) (r2 : List Int) (w : World) (hr0_1 : Kd.C (Kd.int .i64) w A0_1 l0_1.length l0_1) (hc0_1 : l0_1.length ≤ c0_1) (h : impl_GapsCut.f k a0_0 l0_1 a1 a2 a3 = some (r1, r2)) :
  Calls Try.prog 50 #[.agg #[.int .i64 a0_0, .slice A0_1 l0_1.length c0_1], .int .i64 a1, .int .i64 a2, .int .i64 a3] w fun e w' => ∃ v1_ : Value, e = .returned (.agg #[.int .i64 r1, v1_]) ∧ Kd.R (Kd.int .i64) 3 w' w.heap.size (fun _ => True) v1_ r2 ∧ Below w.heap.size w w' := by
 have hu41 := Try.underlying41
 have HR0_1 := Aside0.mk hr0_1
 have HC0_1 := Aside0.mk hc0_1
 clear hr0_1 hc0_1
 have HB := Aside0.mk (Below.refl w.heap.size w)
 have H : ((impl_GapsOk.f k a0_0 l0_1).bind fun t366 => (if t366 = true then (if a1 < 0 then (impl_GapsCut.j0 k a1 a2 a3 true a0_0 l0_1) else (if a1 > a0_0 then (impl_GapsCut.j0 k a1 a2 a3 true a0_0 l0_1) else (if a2 < 0 then (impl_GapsCut.j0 k a1 a2 a3 true a0_0 l0_1) else (if a2 > a0_0 then (impl_GapsCut.j0 k a1 a2 a3 true a0_0 l0_1) else (if a1 = a2 then (impl_GapsCut.j0 k a1 a2 a3 true a0_0 l0_1) else (if a3 < (-4294967296) then (impl_GapsCut.j0 k a1 a2 a3 true a0_0 l0_1) else (impl_GapsCut.j0 k a1 a2 a3 (decide (a3 > 4294967296)) a0_0 l0_1))))))) else (impl_GapsCut.j0 k a1 a2 a3 true a0_0 l0_1))) = some (r1, r2) := h
 clear h
 have HC5 := Aside0.mk H
 clear H
 go_enter Try.func50, Try.ntmps50
 go_upto_region 1 with (first | ((with_reducible refine gate_dst (N := 4) rfl ?_); refine sqx 4 #[.int .i64 a0_0, .slice A0_1 l0_1.length c0_1] 41 ?_; intro gb364 hg w6 hbox hb; have BK364 := Aside0.mk hbox; have GW364 := sqg HB hg; have GE364 := sqg HB hg; replace HB := sqs HB hb; clear hb hbox hg) | ((with_reducible refine gate_dst (N := 8) rfl ?_); refine sqx 8 #[.int .i64 0, .slice none 0 0] 41 ?_; intro gb365 hg w7 hbox hb; have BK365 := Aside0.mk hbox; have GW365 := sqg HB hg; have GE365 := sqg HB hg; have NB364_365 := sqn BK364 hg; have NB365_364 := sqm BK364 hg; replace BK364 := sqb BK364 hb; replace HB := sqs HB hb; clear hb hbox hg))
 (try simp only [Act.put, List.setIfInBounds_toArray, List.set_cons_zero, List.set_cons_succ])
 go_cut [45] (fun v45 wc => ∃ (kq : Nat) (x45_4 : Bool), v45 = .bool x45_4 ∧ Aside0 (impl_GapsCut.j0 kq a1 a2 a3 x45_4 a0_0 l0_1 = some (r1, r2)) ∧ Aside0 (kq ≤ k) ∧ Aside0 (wc.heap[gb364]? = some (.cells #[.int .i64 a0_0, (.slice A0_1 l0_1.length c0_1)] 41 (0, 0))) ∧ Aside0 (wc.heap[gb365]? = some (.cells #[.int .i64 0, (.slice none 0 0)] 41 (0, 0))) ∧ Aside0 (Below w.heap.size w wc))
 case first =>
  have H := HC5.out
  clear HC5
  replace H := sqbi H
  obtain ⟨t366, A8, H⟩ := H
  replace H : (if t366 = true then (if a1 < 0 then (impl_GapsCut.j0 k a1 a2 a3 true a0_0 l0_1) else (if a1 > a0_0 then (impl_GapsCut.j0 k a1 a2 a3 true a0_0 l0_1) else (if a2 < 0 then (impl_GapsCut.j0 k a1 a2 a3 true a0_0 l0_1) else (if a2 > a0_0 then (impl_GapsCut.j0 k a1 a2 a3 true a0_0 l0_1) else (if a1 = a2 then (impl_GapsCut.j0 k a1 a2 a3 true a0_0 l0_1) else (if a3 < (-4294967296) then (impl_GapsCut.j0 k a1 a2 a3 true a0_0 l0_1) else (impl_GapsCut.j0 k a1 a2 a3 (decide (a3 > 4294967296)) a0_0 l0_1))))))) else (impl_GapsCut.j0 k a1 a2 a3 true a0_0 l0_1)) = some (r1, r2) := H
  rcases sqI (t366 = true) with c9 | c9
  ·replace c9 := Bool.eq_false_iff.mpr c9
   subst c9
   have H1 : (impl_GapsCut.j0 k a1 a2 a3 true a0_0 l0_1) = some (r1, r2) := by rw [if_neg (show ¬ (false = true) by decide)] at H; exact H
   clear H
   have H := H1
   clear H1
   have H' := Aside0.mk H
   clear H
   have hnb43 := NB364_365.out
   have hnc43 := NB365_364.out
   obtain ⟨hcz44_0, hcz44_1, hfz44_0, hfz44_1⟩ := sqc2 BK364
   go_wp2_with (first | ((with_reducible refine gate_callee (f := 31) rfl ?_); refine sqL (some 11) Try.func31 #[.agg #[.int .i64 a0_0, .slice A0_1 l0_1.length c0_1]] ?_; (with_reducible refine (impl_GapsOk.calls k a0_0 _ _ l0_1 false _ ?side1 ?side2 A8.out).mono ?_); (case side1 => exact sqC (Kd.C_below HR0_1.out HB.out)); (case side2 => exact HC0_1.out); rintro e w45 ⟨rfl, hb⟩; refine ⟨_, rfl, ?_⟩; refine sqM2 BK364 BK365 hb ?_; clear BK364 BK365; intro BK364 BK365; replace HB := sqs HB hb; (try clear hb)))
   go_meet
   case rel => exact ⟨_, (true), (by first | rfl | (simp; done) | (simp [*]; done)), H', ⟨by first | omega | exact Nat.le_refl _⟩, sqk BK364, sqk BK365, sqh HB⟩
  subst c9
  have H1 : (if a1 < 0 then (impl_GapsCut.j0 k a1 a2 a3 true a0_0 l0_1) else (if a1 > a0_0 then (impl_GapsCut.j0 k a1 a2 a3 true a0_0 l0_1) else (if a2 < 0 then (impl_GapsCut.j0 k a1 a2 a3 true a0_0 l0_1) else (if a2 > a0_0 then (impl_GapsCut.j0 k a1 a2 a3 true a0_0 l0_1) else (if a1 = a2 then (impl_GapsCut.j0 k a1 a2 a3 true a0_0 l0_1) else (if a3 < (-4294967296) then (impl_GapsCut.j0 k a1 a2 a3 true a0_0 l0_1) else (impl_GapsCut.j0 k a1 a2 a3 (decide (a3 > 4294967296)) a0_0 l0_1))))))) = some (r1, r2) := by rw [if_pos rfl] at H; exact H
  clear H
  have H := H1
  clear H1
  replace H := sqj H
  rcases H with ⟨c10, H⟩ | ⟨c10, H⟩
  ·have c10b0 := decide_eq_true c10
   clear c10
   (first | rw [c10b0] | (simp only [i64_w, i32_w]; rw [c10b0]) | skip)
   have H' := Aside0.mk H
   clear H
   have hnb11 := NB364_365.out
   have hnc11 := NB365_364.out
   obtain ⟨hcz12_0, hcz12_1, hfz12_0, hfz12_1⟩ := sqc2 BK364
   go_wp2_with (first | ((with_reducible refine gate_callee (f := 31) rfl ?_); refine sqL (some 11) Try.func31 #[.agg #[.int .i64 a0_0, .slice A0_1 l0_1.length c0_1]] ?_; (with_reducible refine (impl_GapsOk.calls k a0_0 _ _ l0_1 true _ ?side1 ?side2 A8.out).mono ?_); (case side1 => exact sqC (Kd.C_below HR0_1.out HB.out)); (case side2 => exact HC0_1.out); rintro e w13 ⟨rfl, hb⟩; refine ⟨_, rfl, ?_⟩; refine sqM2 BK364 BK365 hb ?_; clear BK364 BK365; intro BK364 BK365; replace HB := sqs HB hb; (try clear hb)))
   go_meet
   case rel => exact ⟨_, (true), (by first | rfl | (simp; done) | (simp [*]; done)), H', ⟨by first | omega | exact Nat.le_refl _⟩, sqk BK364, sqk BK365, sqh HB⟩
  have c10b0 := decide_eq_false c10
  clear c10
  (first | rw [c10b0] | (simp only [i64_w, i32_w]; rw [c10b0]) | skip)
  replace H := sqj H
  rcases H with ⟨c14, H⟩ | ⟨c14, H⟩
  ·have c14b0 : decide (a0_0 < a1) = true := decide_eq_true c14
   clear c14
   have H' := Aside0.mk H
   clear H
   have hnb15 := NB364_365.out
   have hnc15 := NB365_364.out
   obtain ⟨hcz16_0, hcz16_1, hfz16_0, hfz16_1⟩ := sqc2 BK364
   go_wp2_with (first | ((with_reducible refine gate_callee (f := 31) rfl ?_); refine sqL (some 11) Try.func31 #[.agg #[.int .i64 a0_0, .slice A0_1 l0_1.length c0_1]] ?_; (with_reducible refine (impl_GapsOk.calls k a0_0 _ _ l0_1 true _ ?side1 ?side2 A8.out).mono ?_); (case side1 => exact sqC (Kd.C_below HR0_1.out HB.out)); (case side2 => exact HC0_1.out); rintro e w17 ⟨rfl, hb⟩; refine ⟨_, rfl, ?_⟩; refine sqM2 BK364 BK365 hb ?_; clear BK364 BK365; intro BK364 BK365; replace HB := sqs HB hb; (try clear hb); obtain ⟨hcz18_0, hcz18_1, hfz18_0, hfz18_1⟩ := sqc2 BK364))
   go_meet
   case rel => exact ⟨_, (true), (by first | rfl | (simp; done) | (simp [*]; done)), H', ⟨by first | omega | exact Nat.le_refl _⟩, sqk BK364, sqk BK365, sqh HB⟩
  have c14b0 : decide (a0_0 < a1) = false := decide_eq_false c14
  clear c14
  replace H := sqj H
  rcases H with ⟨c19, H⟩ | ⟨c19, H⟩
  ·have c19b0 := decide_eq_true c19
   clear c19
   have H' := Aside0.mk H
   clear H
   have hnb20 := NB364_365.out
   have hnc20 := NB365_364.out
   obtain ⟨hcz21_0, hcz21_1, hfz21_0, hfz21_1⟩ := sqc2 BK364
   go_wp2_with (first | ((with_reducible refine gate_callee (f := 31) rfl ?_); refine sqL (some 11) Try.func31 #[.agg #[.int .i64 a0_0, .slice A0_1 l0_1.length c0_1]] ?_; (with_reducible refine (impl_GapsOk.calls k a0_0 _ _ l0_1 true _ ?side1 ?side2 A8.out).mono ?_); (case side1 => exact sqC (Kd.C_below HR0_1.out HB.out)); (case side2 => exact HC0_1.out); rintro e w22 ⟨rfl, hb⟩; refine ⟨_, rfl, ?_⟩; refine sqM2 BK364 BK365 hb ?_; clear BK364 BK365; intro BK364 BK365; replace HB := sqs HB hb; (try clear hb); obtain ⟨hcz23_0, hcz23_1, hfz23_0, hfz23_1⟩ := sqc2 BK364))
   go_meet
   case rel => exact ⟨_, (true), (by first | rfl | (simp; done) | (simp [*]; done)), H', ⟨by first | omega | exact Nat.le_refl _⟩, sqk BK364, sqk BK365, sqh HB⟩
  have c19b0 := decide_eq_false c19
  clear c19
  replace H := sqj H
  rcases H with ⟨c24, H⟩ | ⟨c24, H⟩
  ·have c24b0 : decide (a0_0 < a2) = true := decide_eq_true c24
   clear c24
   have H' := Aside0.mk H
   clear H
   have hnb25 := NB364_365.out
   have hnc25 := NB365_364.out
   obtain ⟨hcz26_0, hcz26_1, hfz26_0, hfz26_1⟩ := sqc2 BK364
   go_wp2_with (first | ((with_reducible refine gate_callee (f := 31) rfl ?_); refine sqL (some 11) Try.func31 #[.agg #[.int .i64 a0_0, .slice A0_1 l0_1.length c0_1]] ?_; (with_reducible refine (impl_GapsOk.calls k a0_0 _ _ l0_1 true _ ?side1 ?side2 A8.out).mono ?_); (case side1 => exact sqC (Kd.C_below HR0_1.out HB.out)); (case side2 => exact HC0_1.out); rintro e w27 ⟨rfl, hb⟩; refine ⟨_, rfl, ?_⟩; refine sqM2 BK364 BK365 hb ?_; clear BK364 BK365; intro BK364 BK365; replace HB := sqs HB hb; (try clear hb); obtain ⟨hcz28_0, hcz28_1, hfz28_0, hfz28_1⟩ := sqc2 BK364))
   go_meet
   case rel => exact ⟨_, (true), (by first | rfl | (simp; done) | (simp [*]; done)), H', ⟨by first | omega | exact Nat.le_refl _⟩, sqk BK364, sqk BK365, sqh HB⟩
  have c24b0 : decide (a0_0 < a2) = false := decide_eq_false c24
  clear c24
  replace H := sqj H
  rcases H with ⟨c29, H⟩ | ⟨c29, H⟩
  ·have c29b0 : (a1 == a2) = true := beq_iff_eq.mpr c29
   have c29b1 : (a1 != a2) = false := bne_eq_false_iff_eq.mpr c29
   clear c29
   have H' := Aside0.mk H
   clear H
   have hnb30 := NB364_365.out
   have hnc30 := NB365_364.out
   obtain ⟨hcz31_0, hcz31_1, hfz31_0, hfz31_1⟩ := sqc2 BK364
   go_wp2_with (first | ((with_reducible refine gate_callee (f := 31) rfl ?_); refine sqL (some 11) Try.func31 #[.agg #[.int .i64 a0_0, .slice A0_1 l0_1.length c0_1]] ?_; (with_reducible refine (impl_GapsOk.calls k a0_0 _ _ l0_1 true _ ?side1 ?side2 A8.out).mono ?_); (case side1 => exact sqC (Kd.C_below HR0_1.out HB.out)); (case side2 => exact HC0_1.out); rintro e w32 ⟨rfl, hb⟩; refine ⟨_, rfl, ?_⟩; refine sqM2 BK364 BK365 hb ?_; clear BK364 BK365; intro BK364 BK365; replace HB := sqs HB hb; (try clear hb); obtain ⟨hcz33_0, hcz33_1, hfz33_0, hfz33_1⟩ := sqc2 BK364))
   go_meet
   case rel => exact ⟨_, (true), (by first | rfl | (simp; done) | (simp [*]; done)), H', ⟨by first | omega | exact Nat.le_refl _⟩, sqk BK364, sqk BK365, sqh HB⟩
  have c29b0 : (a1 == a2) = false := beq_eq_false_iff_ne.mpr c29
  have c29b1 : (a1 != a2) = true := bne_iff_ne.mpr c29
  replace H := sqj H
  rcases H with ⟨c34, H⟩ | ⟨c34, H⟩
  ·have c34b0 := decide_eq_true c34
   clear c34
   have H' := Aside0.mk H
   clear H
   have hnb35 := NB364_365.out
   have hnc35 := NB365_364.out
   obtain ⟨hcz36_0, hcz36_1, hfz36_0, hfz36_1⟩ := sqc2 BK364
   go_wp2_with (first | ((with_reducible refine gate_callee (f := 31) rfl ?_); refine sqL (some 11) Try.func31 #[.agg #[.int .i64 a0_0, .slice A0_1 l0_1.length c0_1]] ?_; (with_reducible refine (impl_GapsOk.calls k a0_0 _ _ l0_1 true _ ?side1 ?side2 A8.out).mono ?_); (case side1 => exact sqC (Kd.C_below HR0_1.out HB.out)); (case side2 => exact HC0_1.out); rintro e w37 ⟨rfl, hb⟩; refine ⟨_, rfl, ?_⟩; refine sqM2 BK364 BK365 hb ?_; clear BK364 BK365; intro BK364 BK365; replace HB := sqs HB hb; (try clear hb); obtain ⟨hcz38_0, hcz38_1, hfz38_0, hfz38_1⟩ := sqc2 BK364))
   go_meet
   case rel => exact ⟨_, (true), (by first | rfl | (simp; done) | (simp [*]; done)), H', ⟨by first | omega | exact Nat.le_refl _⟩, sqk BK364, sqk BK365, sqh HB⟩
  have c34b0 := decide_eq_false c34
  clear c34
  have H' := Aside0.mk H
  clear H
  have hnb39 := NB364_365.out
  have hnc39 := NB365_364.out
  obtain ⟨hcz40_0, hcz40_1, hfz40_0, hfz40_1⟩ := sqc2 BK364
  go_wp2_with (first | ((with_reducible refine gate_callee (f := 31) rfl ?_); refine sqL (some 11) Try.func31 #[.agg #[.int .i64 a0_0, .slice A0_1 l0_1.length c0_1]] ?_; (with_reducible refine (impl_GapsOk.calls k a0_0 _ _ l0_1 true _ ?side1 ?side2 A8.out).mono ?_); (case side1 => exact sqC (Kd.C_below HR0_1.out HB.out)); (case side2 => exact HC0_1.out); rintro e w41 ⟨rfl, hb⟩; refine ⟨_, rfl, ?_⟩; refine sqM2 BK364 BK365 hb ?_; clear BK364 BK365; intro BK364 BK365; replace HB := sqs HB hb; (try clear hb); obtain ⟨hcz42_0, hcz42_1, hfz42_0, hfz42_1⟩ := sqc2 BK364))
  go_meet
  case rel => exact ⟨_, (decide (a3 > 4294967296)), (by first | rfl | (simp; done) | (simp [*]; done)), H', ⟨by first | omega | exact Nat.le_refl _⟩, sqk BK364, sqk BK365, sqh HB⟩
 case rest =>
  clear HC5
  obtain ⟨kq, x45_4, rfl, HA, HJ4, BK364, BK365, HB⟩ := hcut
  cases kq with
  | zero => exact absurd HA.out (by simp [impl_GapsCut.j0])
  | succ kj4 =>
   have H := HA.out
   clear HA
   simp only [impl_GapsCut.j0] at H
   by_cases c46 : x45_4 = true
   ·subst c46
    have H1 : (some (0, ([] : List Int))) = some (r1, r2) := by rw [if_pos rfl] at H; exact H
    clear H
    have H := H1
    clear H1
    simp only [Option.some.injEq, Prod.mk.injEq] at H
    obtain ⟨rfl, rfl⟩ := H
    have hnb47 := NB365_364.out
    have hnc47 := NB364_365.out
    obtain ⟨hcz48_0, hcz48_1, hfz48_0, hfz48_1⟩ := sqc2 BK365
    go_wp2
    refine bodyPost_ret (results_cell_row rfl _ _ gb365 41 #[.int .i64 0, .slice none 0 0] (0, 0) _ rfl (by refine sqt ?_; refine blk_put (cs := #[.int .i64 0, .slice none 0 0]) ?_ 1 _ rfl; refine sqt ?_; refine blk_put (cs := #[.int .i64 0, .slice none 0 0]) ?_ 0 _ rfl; refine sqt ?_; exact BK365.out) Try.underlying41 rfl (by kernel_rfl)) rfl ?_
    exact ⟨_, by first | rfl | (simp [errW_none, errW_some] <;> rfl) | (simp [*, errW_none, errW_some] <;> rfl), by first | exact Kd.R_nil _ _ _ _ _ | exact Kd.N_nil _ _ _ _ _ | exact Kd.V_nil _ _ _ _ _ | exact Kd.Q_nil _ _ _ _ _ | exact Kd.S_nil _ _ _ _ _, by repeat (first | (with_reducible first | exact HB.out | apply below_alloc | apply pw_below_drewN | apply below_drew1 | refine below_set ?_ GE364.out | refine below_set ?_ GE365.out) | exact HB.out)⟩
   replace c46 := Bool.eq_false_iff.mpr c46
   subst c46
   have H1 : ((impl_Gaps_clone.f a0_0 l0_1).bind fun bt367 => ((impl_Gaps_at.f a0_0 l0_1 a1 a2).bind fun t372 => ((impl_Gaps_at.f a0_0 l0_1 a1 a2).bind fun t373 => (if 0 ≤ t373 then (if t373 < (bt367.2.length : Int) then (if 0 ≤ t372 then (if t372 < (bt367.2.length : Int) then (some (bt367.1, (bt367.2.set (t372 : Int).toNat (mn (rd bt367.2 t373) a3)))) else (none)) else (none)) else (none)) else (none))))) = some (r1, r2) := by rw [if_neg (show ¬ (false = true) by decide)] at H; exact H
   clear H
   have H := H1
   clear H1
   replace H := sqbi H
   obtain ⟨⟨t367, t368⟩, A49, H⟩ := H
   replace H : ((impl_Gaps_at.f a0_0 l0_1 a1 a2).bind fun t372 => ((impl_Gaps_at.f a0_0 l0_1 a1 a2).bind fun t373 => (if 0 ≤ t373 then (if t373 < (t368.length : Int) then (if 0 ≤ t372 then (if t372 < (t368.length : Int) then (some (t367, (t368.set (t372 : Int).toNat (mn (rd t368 t373) a3)))) else (none)) else (none)) else (none)) else (none)))) = some (r1, r2) := H
   replace H := sqbi H
   obtain ⟨t372, A50, H⟩ := H
   replace H : ((impl_Gaps_at.f a0_0 l0_1 a1 a2).bind fun t373 => (if 0 ≤ t373 then (if t373 < (t368.length : Int) then (if 0 ≤ t372 then (if t372 < (t368.length : Int) then (some (t367, (t368.set (t372 : Int).toNat (mn (rd t368 t373) a3)))) else (none)) else (none)) else (none)) else (none))) = some (r1, r2) := H
   replace H := sqbi H
   obtain ⟨t373, A51, H⟩ := H
   replace H : (if 0 ≤ t373 then (if t373 < (t368.length : Int) then (if 0 ≤ t372 then (if t372 < (t368.length : Int) then (some (t367, (t368.set (t372 : Int).toNat (mn (rd t368 t373) a3)))) else (none)) else (none)) else (none)) else (none)) = some (r1, r2) := H
   replace H := sqi H
   rcases H with ⟨c52, H⟩ | ⟨c52, H⟩
   ·exact absurd H (by simp)
   have c52b0 := decide_eq_true c52
   clear c52
   replace H := sqi H
   rcases H with ⟨c53, H⟩ | ⟨c53, H⟩
   ·exact absurd H (by simp)
   have c53b0 := decide_eq_true c53
   clear c53
   obtain ⟨ji54, hji54⟩ : ∃ j_ : Int, (mn (rd t368 t373) a3) = j_ := ⟨_, rfl⟩
   replace H : (if 0 ≤ t372 then (if t372 < (t368.length : Int) then (some (t367, (t368.set (t372 : Int).toNat (ji54)))) else (none)) else (none)) = some (r1, r2) := by first | (rw [hji54] at H; exact H) | (simp only [hji54] at H ⊢; exact H)
   (try rw [hji54] at A49)
   (try rw [hji54] at A50)
   (try rw [hji54] at A51)
   have hji54_ : (if a3 < (rd t368 t373) then a3 else (rd t368 t373)) = ji54 := hji54
   replace H := sqi H
   rcases H with ⟨c55, H⟩ | ⟨c55, H⟩
   ·exact absurd H (by simp)
   have c55b0 := decide_eq_true c55
   clear c55
   replace H := sqi H
   rcases H with ⟨c56, H⟩ | ⟨c56, H⟩
   ·exact absurd H (by simp)
   have c56b0 := decide_eq_true c56
   clear c56
   obtain ⟨y375, hy375⟩ : ∃ y_ : List Int, y_ = (t368.set (t372 : Int).toNat (ji54)) := ⟨_, rfl⟩
   replace H : (some (t367, y375)) = some (r1, r2) := by first | (rw [hy375]; with_reducible exact H) | (have H2_ := (Option.bind_some _ _).symm.trans H; rw [hy375]; with_reducible exact H2_) | (have H2_ := (Option.bind_some _ _).symm.trans H; with_reducible exact H2_) | with_reducible exact H | (rw [hy375]; exact H) | exact H
   have Ny375 := Aside0.mk hy375
   clear hy375
   simp only [Option.some.injEq, Prod.mk.injEq] at H
   obtain ⟨rfl, rfl⟩ := H
   have hnb58 := NB364_365.out
   have hnc58 := NB365_364.out
   obtain ⟨hcz59_0, hcz59_1, hfz59_0, hfz59_1⟩ := sqc2 BK364
   try go_wp2_with (first | ((with_reducible refine gate_callee (f := 111) rfl ?_); refine sqL (some 48) Try.func111 #[.agg #[.int .i64 a0_0, .slice A0_1 l0_1.length c0_1]] ?_; (with_reducible refine (impl_Gaps_clone.calls a0_0 _ _ l0_1 t367 t368 _ ?side1 ?side2 A49.out).mono ?_); (case side1 => exact sqC (Kd.C_below HR0_1.out HB.out)); (case side2 => exact HC0_1.out); rintro e w60 ⟨v369, rfl, ho0, hb⟩; refine ⟨_, rfl, ?_⟩; have HO370 := Aside0.mk (Kd.R_lower ho0 (below_size (sqB HB))); refine sqM2 BK364 BK365 hb ?_; clear BK364 BK365; intro BK364 BK365; replace HB := sqs HB hb; (try clear hb); (try clear hb2); (try clear hk); (try clear hi); (try clear ho0)) | ((with_reducible refine gate_dst (N := 9) rfl ?_); refine sqx 9 #[.int .i64 0, .slice none 0 0] 41 ?_; intro gb371 hg w61 hbox hb; have n0_ := Aside0.mk (Kd.R_below (sqy HO370.out) hb); have n1_ := sqb BK364 hb; have n2_ := sqb BK365 hb; have n3_ := sqs HB hb; have n4_ := Aside0.mk (hbox); have n5_ := sqg HB hg; have n6_ := sqg HB hg; have n7_ := sqn BK364 hg; have n8_ := sqm BK364 hg; have n9_ := sqn BK365 hg; have n10_ := sqm BK365 hg; clear HO370; clear BK364; clear BK365; clear HB; have HO370 := n0_; have BK364 := n1_; have BK365 := n2_; have HB := n3_; have BK371 := n4_; have GW371 := n5_; have GE371 := n6_; have NB364_371 := n7_; have NB371_364 := n8_; have NB365_371 := n9_; have NB371_365 := n10_; clear n0_ n1_ n2_ n3_ n4_ n5_ n6_ n7_ n8_ n9_ n10_; clear hb hbox hg; have hnb62 := NB371_364.out; have hnc62 := NB364_371.out; have hnb63 := NB371_365.out; have hnc63 := NB365_371.out; obtain ⟨hcz64_0, hcz64_1, hfz64_0, hfz64_1⟩ := sqc2 BK371; obtain ⟨Ao65, co65, eo65⟩ := Kd.R_slice HO370.out; subst eo65))
   have n0_ : Aside0 (Kd.R (Kd.int .i64) 3 ((w61.setCell ⟨gb371, 0, none⟩ (.int .i64 t367)).setCell ⟨gb371, 1, none⟩ (.slice Ao65 t368.length co65)) w.heap.size (fun _ => True) (.slice Ao65 t368.length co65) t368) := ⟨by (with_reducible repeat (first | apply Kd.R_alloc | apply Kd.R_drewN | apply Kd.R_drew)); exact Kd.R_mono (Kd.R_far (p := ⟨gb371, 1, none⟩) (Kd.R_far (p := ⟨gb371, 0, none⟩) (Kd.R_types HO370.out BK371.out (by decide)) (fun _ hk => hk.2) (.int .i64 t367)) (fun _ hk => hk.2) (.slice Ao65 t368.length co65)) (fun _ hk => trivial)⟩
   have n1_ : Aside0 (((w61.setCell ⟨gb371, 0, none⟩ (.int .i64 t367)).setCell ⟨gb371, 1, none⟩ (.slice Ao65 t368.length co65)).heap[gb364]? = some (.cells #[.int .i64 a0_0, .slice A0_1 l0_1.length c0_1] 41 (0, 0))) := ⟨by refine sqt ?_; refine blk_far ?_ NB364_371.out _; refine sqt ?_; refine blk_far ?_ NB364_371.out _; refine sqt ?_; exact BK364.out⟩
   have n2_ : Aside0 (((w61.setCell ⟨gb371, 0, none⟩ (.int .i64 t367)).setCell ⟨gb371, 1, none⟩ (.slice Ao65 t368.length co65)).heap[gb365]? = some (.cells #[.int .i64 0, .slice none 0 0] 41 (0, 0))) := ⟨by refine sqt ?_; refine blk_far ?_ NB365_371.out _; refine sqt ?_; refine blk_far ?_ NB365_371.out _; refine sqt ?_; exact BK365.out⟩
   have n3_ : Aside0 (((w61.setCell ⟨gb371, 0, none⟩ (.int .i64 t367)).setCell ⟨gb371, 1, none⟩ (.slice Ao65 t368.length co65)).heap[gb371]? = some (.cells #[.int .i64 t367, .slice Ao65 t368.length co65] 41 (0, 0))) := ⟨by refine sqt ?_; refine blk_put (cs := #[.int .i64 t367, .slice none 0 0]) ?_ 1 _ rfl; refine sqt ?_; refine blk_put (cs := #[.int .i64 0, .slice none 0 0]) ?_ 0 _ rfl; refine sqt ?_; exact BK371.out⟩
   have n4_ : Aside0 (Below w.heap.size w ((w61.setCell ⟨gb371, 0, none⟩ (.int .i64 t367)).setCell ⟨gb371, 1, none⟩ (.slice Ao65 t368.length co65))) := sqh HB
   (try clear HO370)
   (try clear BK364)
   (try clear BK365)
   (try clear BK371)
   (try clear HB)
   generalize ((w61.setCell ⟨gb371, 0, none⟩ (.int .i64 t367)).setCell ⟨gb371, 1, none⟩ (.slice Ao65 t368.length co65)) = w66 at n0_ n1_ n2_ n3_ n4_ ⊢
   have HO370 := n0_
   have BK364 := n1_
   have BK365 := n2_
   have BK371 := n3_
   have HB := n4_
   clear n0_ n1_ n2_ n3_ n4_
   replace HO370 := Aside0.mk (Kd.R_drew HO370.out)
   replace BK364 := Aside0.mk (blk_drew BK364.out)
   replace BK365 := Aside0.mk (blk_drew BK365.out)
   replace BK371 := Aside0.mk (blk_drew BK371.out)
   replace HB := Aside0.mk (below_drew1 HB.out)
   have p374 : 0 ≤ (t373 : Int) := sqd
   have q374 : t373 < (t368.length : Int) := sqd
   obtain ⟨ad374, e374, hx374_0⟩ := Kd.at_int (Kd.R_reads' HO370.out).2.2 t373 p374 q374
   cases e374
   replace p374 := eq_true p374
   replace q374 := eq_true q374
   refine start_ (n := 18) (S := fun w' => w'.cell? ⟨gb371, 0, none⟩ = some (.int .i64 t367) ∧ w'.cell? ⟨gb371, 1, none⟩ = some (.slice (some ad374) t368.length co65) ∧ w'.cell? ⟨gb364, 0, none⟩ = some (.int .i64 a0_0) ∧ w'.cell? ⟨gb364, 1, none⟩ = some (.slice A0_1 l0_1.length c0_1) ∧ w'.cell? (ad374.add (t373).toNat) = some (.int .i64 (rd t368 t373))) (ds := [17]) #[false, false, false, false, false, false, false, false, false, false, false, false, false, false, false, false, false, false] (by kernel_rfl) rfl rfl ⟨(blk_cell BK371.out 0).trans rfl, (blk_cell BK371.out 1).trans rfl, (blk_cell BK364.out 0).trans rfl, (blk_cell BK364.out 1).trans rfl, hx374_0⟩ (fun hHeld => ?_); refine with_tabW impl_GapsCut.tab4 impl_GapsCut.bits4 (fun HT_ HW_ => ?_)
   generalize w66.drew = w67 at HO370 BK364 BK365 BK371 HB hx374_0 hHeld ⊢
   refine sqp HT_ 0 49 ?_
   refine sqp HT_ 3 52 ?_
   refine sqp HT_ 4 53 ?_
   refine sqp HT_ 6 55 ?_
   refine sqp HT_ 9 58 ?_
   refine sqp HT_ 10 59 ?_
   refine sqp HT_ 14 63 ?_
   refine sqw HT_ HW_ 1 50 hHeld ?_
   refine sqw HT_ HW_ 2 51 hHeld ?_
   refine sqw HT_ HW_ 7 56 hHeld ?_
   refine sqw HT_ HW_ 8 57 hHeld ?_
   refine sqo HT_ 5 54 (fun K hK => ?_)
   refine sqG Try.func118 #[.agg #[.int .i64 a0_0, .slice A0_1 l0_1.length c0_1], .int .i64 a1, .int .i64 a2] ?_
   with_reducible refine (impl_Gaps_at.calls a0_0 _ _ l0_1 a1 a2 t372 _ ?side1 ?side2 A50.out).mono ?_
   (case side1 => exact sqC (Kd.C_below HR0_1.out HB.out))
   (case side2 => exact HC0_1.out)
   rintro e w68 ⟨rfl, hb⟩
   have HS4_ := (hb.cell (World.block_lt_of_cell? _ _ (hHeld.2.2.2.2))).trans (hHeld.2.2.2.2)
   refine ⟨_, rfl, ?_⟩
   have n0_ := Aside0.mk (Kd.R_below (sqy HO370.out) hb)
   have n1_ := sqb BK364 hb
   have n2_ := sqb BK365 hb
   have n3_ := sqb BK371 hb
   have n4_ := sqs HB hb
   clear HO370
   clear BK364
   clear BK365
   clear BK371
   clear HB
   have HO370 := n0_
   have BK364 := n1_
   have BK365 := n2_
   have BK371 := n3_
   have HB := n4_
   clear n0_ n1_ n2_ n3_ n4_
   (try clear hb)
   refine hK.out _ _ ⟨(blk_cell BK371.out 0).trans rfl, (blk_cell BK371.out 1).trans rfl, (blk_cell BK364.out 0).trans rfl, (blk_cell BK364.out 1).trans rfl, HS4_⟩ (fun hHeld => ?_)
   clear hK K
   refine sqnm ?_
   refine sqo HT_ 11 60 (fun K hK => ?_)
   refine sqG Try.func118 #[.agg #[.int .i64 a0_0, .slice A0_1 l0_1.length c0_1], .int .i64 a1, .int .i64 a2] ?_
   with_reducible refine (impl_Gaps_at.calls a0_0 _ _ l0_1 a1 a2 t373 _ ?side1 ?side2 A51.out).mono ?_
   (case side1 => exact sqC (Kd.C_below HR0_1.out HB.out))
   (case side2 => exact HC0_1.out)
   rintro e w69 ⟨rfl, hb⟩
   have HS4_ := (hb.cell (World.block_lt_of_cell? _ _ (hHeld.2.2.2.2))).trans (hHeld.2.2.2.2)
   refine ⟨_, rfl, ?_⟩
   have n0_ := Aside0.mk (Kd.R_below (sqy HO370.out) hb)
   have n1_ := sqb BK364 hb
   have n2_ := sqb BK365 hb
   have n3_ := sqb BK371 hb
   have n4_ := sqs HB hb
   clear HO370
   clear BK364
   clear BK365
   clear BK371
   clear HB
   have HO370 := n0_
   have BK364 := n1_
   have BK365 := n2_
   have BK371 := n3_
   have HB := n4_
   clear n0_ n1_ n2_ n3_ n4_
   (try clear hb)
   have p57 : 0 ≤ (t372 : Int) := sqd
   have q57 : (t372 : Int) < ((t368.length : Int) : Int) := sqd
   obtain ⟨go57, co57, eo57, gb57, gl57, cl57, HG57⟩ := Kd.R_form HO370.out (by omega)
   (first | cases eo57 | (injection eo57 with ea_ en_ ec_; (first | subst ea_ | (injection ea_ with ea_; subst ea_)); subst ec_; clear en_))
   have GB57 := Aside0.mk gb57
   have GG57 := Aside0.mk HG57
   clear gb57 gl57 HG57
   (first | simp only [add_plain] at hx374_0 | skip)
   obtain ⟨hx57_0, hf57_0⟩ := Kd.R_celln 0 HO370.out (t372 : Int) p57 q57
   replace p57 := eq_true p57
   replace q57 := eq_true q57
   have HP70 := Kd.R_putn HO370.out (t372 : Int) ji54
   rw [← Ny375.out] at HP70
   have HQ70 := Aside0.mk HP70
   clear HP70
   refine hK.out _ _ ⟨(blk_cell BK371.out 0).trans rfl, (blk_cell BK371.out 1).trans rfl, (blk_cell BK364.out 0).trans rfl, (blk_cell BK364.out 1).trans rfl, HS4_⟩ (fun hHeld => ?_)
   clear hK K
   refine sqnm ?_
   refine sqp HT_ 12 61 ?_
   refine sqw HT_ HW_ 13 62 hHeld ?_
   refine sqp HT_ 15 64 ?_
   refine sqp HT_ 16 65 ?_
   refine last_ (i := 17) (N := none) #[true, true, true, true, true, true, true, true, true, true, true, true, true, true, true, true, true, true] rfl rfl (one_of HT_.out (by kernel_rfl)) (by decide) (fun K hK => ?_)
   refine skip_ (w1 := ?_) (by rfl) rfl ?_ ?_
   rotate_left
   ·go_simp
    rfl
   refine hK.out _ _ ?_
   clear hK K
   refine done_ (done_of HT_.out (by kernel_rfl)) ?_
   have n0_ : Aside0 (Kd.R (Kd.int .i64) 3 (w69.setCell ⟨go57, (t372 : Int).toNat, none⟩ (.int .i64 ji54)) w.heap.size (fun _ => True) (.slice (some ⟨go57, 0, none⟩) t368.length co65) y375) := ⟨sqy HQ70.out⟩
   have n1_ : Aside0 ((w69.setCell ⟨go57, (t372 : Int).toNat, none⟩ (.int .i64 ji54)).heap[gb364]? = some (.cells #[.int .i64 a0_0, .slice A0_1 l0_1.length c0_1] 41 (0, 0))) := ⟨by refine sqt ?_; refine blk_far ?_ (by have h_ := Kd.R_ne HO370.out BK364.out (by decide); intro e_; exact h_ (by rw [e_]; rfl)) _; refine sqt ?_; exact BK364.out⟩
   have n2_ : Aside0 ((w69.setCell ⟨go57, (t372 : Int).toNat, none⟩ (.int .i64 ji54)).heap[gb365]? = some (.cells #[.int .i64 0, .slice none 0 0] 41 (0, 0))) := ⟨by refine sqt ?_; refine blk_far ?_ (by have h_ := Kd.R_ne HO370.out BK365.out (by decide); intro e_; exact h_ (by rw [e_]; rfl)) _; refine sqt ?_; exact BK365.out⟩
   have n3_ : Aside0 ((w69.setCell ⟨go57, (t372 : Int).toNat, none⟩ (.int .i64 ji54)).heap[gb371]? = some (.cells #[.int .i64 t367, .slice (some ⟨go57, 0, none⟩) t368.length co65] 41 (0, 0))) := ⟨by refine sqt ?_; refine blk_far ?_ (by have h_ := Kd.R_ne HO370.out BK371.out (by decide); intro e_; exact h_ (by rw [e_]; rfl)) _; refine sqt ?_; exact BK371.out⟩
   have n4_ : Aside0 (Below w.heap.size w (w69.setCell ⟨go57, (t372 : Int).toNat, none⟩ (.int .i64 ji54))) := ⟨by repeat (first | (with_reducible first | exact HB.out | apply below_alloc | apply pw_below_drewN | apply below_drew1 | refine below_set ?_ GB57.out | refine below_set ?_ GE364.out | refine below_set ?_ GE365.out | refine below_set ?_ GE371.out) | exact HB.out)⟩
   (try clear HO370)
   (try clear BK364)
   (try clear BK365)
   (try clear BK371)
   (try clear HB)
   generalize (w69.setCell ⟨go57, (t372 : Int).toNat, none⟩ (.int .i64 ji54)) = w71 at n0_ n1_ n2_ n3_ n4_ ⊢
   have HO370 := n0_
   have BK364 := n1_
   have BK365 := n2_
   have BK371 := n3_
   have HB := n4_
   clear n0_ n1_ n2_ n3_ n4_
   obtain ⟨hcz72_0, hcz72_1, hfz72_0, hfz72_1⟩ := sqc2 BK371
   obtain ⟨hcz73_0, hcz73_1, hfz73_0, hfz73_1⟩ := sqc2 BK365
   try go_wp2
   refine bodyPost_ret (results_cell_row rfl _ _ gb365 41 #[.int .i64 t367, .slice (some ⟨go57, 0, none⟩) t368.length co65] (0, 0) _ rfl (by refine sqt ?_; refine blk_put (cs := #[.int .i64 t367, .slice none 0 0]) ?_ 1 _ rfl; refine sqt ?_; refine blk_put (cs := #[.int .i64 0, .slice none 0 0]) ?_ 0 _ rfl; refine sqt ?_; exact BK365.out) Try.underlying41 rfl (by kernel_rfl)) rfl ?_
   exact ⟨_, by first | rfl | (simp [errW_none, errW_some] <;> rfl) | (simp only [← hji54]; first | rfl | (simp [errW_none, errW_some] <;> rfl)) | (simp [*, errW_none, errW_some] <;> rfl), by (with_reducible repeat (first | apply Kd.R_alloc | apply Kd.R_drewN | apply Kd.R_drew)); exact Kd.R_mono (Kd.R_far (p := ⟨gb365, 1, none⟩) (Kd.R_far (p := ⟨gb365, 0, none⟩) (Kd.R_types HO370.out BK365.out (by decide)) (fun _ hk => hk.2) (.int .i64 t367)) (fun _ hk => hk.2) (.slice (some ⟨go57, 0, none⟩) t368.length co65)) (fun _ hk => trivial), by repeat (first | (with_reducible first | exact HB.out | apply below_alloc | apply pw_below_drewN | apply below_drew1 | refine below_set ?_ GE364.out | refine below_set ?_ GE365.out | refine below_set ?_ GE371.out) | exact HB.out)⟩

end Go.Proofs.Ytkekcenlleebeaa.PFnGapsDo
