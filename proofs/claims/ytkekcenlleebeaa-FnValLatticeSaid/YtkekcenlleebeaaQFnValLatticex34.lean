/- Functions of the program as plain Lean functions, and that calls of them come to what these tell. Conditions: those in each law. -/
import Derived.Test.YtkekcenlleebeaaSq
import Derived.Test.YtkekcenlleebeaaDFnValLattice
import Derived.Test.YtkekcenlleebeaaQFnValLatticex0
import Derived.Test.YtkekcenlleebeaaQFnValLatticex1
import Derived.Test.YtkekcenlleebeaaQFnValLatticex6
import Derived.Test.YtkekcenlleebeaaQFnValLatticex7
import Derived.Test.YtkekcenlleebeaaQFnValLatticex27
import Derived.Test.YtkekcenlleebeaaQFnValLatticex33
namespace Go.Proofs.Ytkekcenlleebeaa.PFnValLattice
open Go.RowKit Go.Proofs.Ytkekcenlleebeaa.Sq Go.Proofs.YtkekcenlleebeaaW.PrintWords Go.Proofs.YtkekcenlleebeaaW.PrintLast Go.Proofs.YtkekcenlleebeaaW.PrintMore
attribute [local go_sem] max2_int min2_int max_two min_two max_three min_three max_four min_four   -- for this text's walks alone
set_option linter.unusedVariables false
set_option linter.unusedSimpArgs false

attribute [local go_sem high] eqA24
/-! ### spec_RangeWiden: function 191 -/
def spec_RangeWiden.T2 : Bool × List (List Nat × List Nat) := (true, [([], []), ([0], [0]), ([1], [1]), ([2, 1], [2]), ([3], [3]), ([4, 3, 3], [3, 4]), ([5, 3], [3, 5]), ([3, 6], [3, 6]), ([7, 5], [7]), ([8], [8]), ([8, 8], [8]), ([9, 10, 8], [8, 9, 10]), ([8, 11], [8, 11]), ([12, 10], [12]), ([13], [13]), ([13, 13], [13]), ([14, 15, 13], [13, 14, 15]), ([13, 16], [13, 16])])
def spec_RangeWiden.B2 : List Nat := [0, 1, 3, 7, 15, 31, 63, 127, 255, 511, 511, 2047, 4095, 8191, 16383, 16383, 65535, 131071]
theorem spec_RangeWiden.tab2 : rtab .any (opsOf Try.f191 2) = spec_RangeWiden.T2 := by kernel_rfl
theorem spec_RangeWiden.bits2 : waitsOk spec_RangeWiden.T2.2 spec_RangeWiden.B2 = true := by kernel_rfl
set_option maxHeartbeats 8000000 in
set_option maxRecDepth 100000 in
theorem spec_RangeWiden.calls (k : Nat) (a0_0 : Int) (a0_1 : Int) (a1_0 : Int) (a1_1 : Int) (A2 : Option Addr) (c2 : Nat) (l2 : List Int) (r1 : Int) (r2 : Int) (w : World) (hr2 : Kd.C (Kd.int .i64) w A2 l2.length l2) (hc2 : l2.length ≤ c2) (h : spec_RangeWiden.f k a0_0 a0_1 a1_0 a1_1 l2 = some (r1, r2)) :
  Calls Try.prog 191 #[.agg #[.int .i64 a0_0, .int .i64 a0_1], .agg #[.int .i64 a1_0, .int .i64 a1_1], .slice A2 l2.length c2] w fun e w' => e = .returned (.agg #[.int .i64 r1, .int .i64 r2]) ∧ Below w.heap.size w w' := by
 have hu24 := Try.underlying24
 have HR2 := Aside0.mk hr2
 have HC2 := Aside0.mk hc2
 clear hr2 hc2
 have HB := Aside0.mk (Below.refl w.heap.size w)
 have H := h
 unfold spec_RangeWiden.f at H
 clear h
 replace H := sqbi H
 obtain ⟨⟨t797, t798⟩, A4, H⟩ := H
 try dsimp only at H
 have HC5 := Aside0.mk H
 clear H
 go_enter Try.func191, Try.ntmps191
 go_upto_region 2 with (first | ((with_reducible refine gate_dst (N := 3) rfl ?_); refine sqx 3 #[.int .i64 a0_0, .int .i64 a0_1] 24 ?_; intro gb794 hg w6 hbox hb; have BK794 := Aside0.mk hbox; have GW794 := sqg HB hg; replace HB := sqs HB hb; clear hb hbox hg) | ((with_reducible refine gate_dst (N := 4) rfl ?_); refine sqx 4 #[.int .i64 a1_0, .int .i64 a1_1] 24 ?_; intro gb795 hg w7 hbox hb; have BK795 := Aside0.mk hbox; have GW795 := sqg HB hg; have NB794_795 := sqn BK794 hg; have NB795_794 := sqm BK794 hg; replace BK794 := sqb BK794 hb; replace HB := sqs HB hb; clear hb hbox hg) | ((with_reducible refine gate_dst (N := 6) rfl ?_); refine sqx 6 #[.int .i64 0, .int .i64 0] 24 ?_; intro gb796 hg w8 hbox hb; have BK796 := Aside0.mk hbox; have GW796 := sqg HB hg; have NB794_796 := sqn BK794 hg; have NB796_794 := sqm BK794 hg; have NB795_796 := sqn BK795 hg; have NB796_795 := sqm BK795 hg; refine sqM2 BK794 BK795 hb ?_; clear BK794 BK795; intro BK794 BK795; replace HB := sqs HB hb; clear hb hbox hg; obtain ⟨_, _, _, _⟩ := sqN2 NB794_795 NB794_796; obtain ⟨_, _, _, _⟩ := sqc2 BK794; obtain ⟨_, _⟩ := sqN1 NB795_796; obtain ⟨_, _, _, _⟩ := sqc2 BK795) | ((with_reducible refine gate_callee (f := 188) rfl ?_); refine sqL (some 10) Try.func188 #[.agg #[.int .i64 a0_0, .int .i64 a0_1], .agg #[.int .i64 a1_0, .int .i64 a1_1]] ?_; (with_reducible refine (spec_RangeJoin.calls k a0_0 a0_1 a1_0 a1_1 t797 t798 _ A4.out).mono ?_); rintro e w14 ⟨rfl, hb⟩; refine ⟨_, rfl, ?_⟩; refine sqM3 BK794 BK795 BK796 hb ?_; clear BK794 BK795 BK796; intro BK794 BK795 BK796; replace HB := sqs HB hb; (try clear hb)) | ((with_reducible refine gate_dst (N := 7) rfl ?_); refine sqx 7 #[.int .i64 0, .int .i64 0] 24 ?_; intro gb799 hg w15 hbox hb; have BK799 := Aside0.mk hbox; have GW799 := sqg HB hg; have NB794_799 := sqn BK794 hg; have NB799_794 := sqm BK794 hg; have NB795_799 := sqn BK795 hg; have NB799_795 := sqm BK795 hg; have NB796_799 := sqn BK796 hg; have NB799_796 := sqm BK796 hg; refine sqM3 BK794 BK795 BK796 hb ?_; clear BK794 BK795 BK796; intro BK794 BK795 BK796; replace HB := sqs HB hb; clear hb hbox hg; obtain ⟨_, _, _, _, _, _⟩ := sqN3 NB799_794 NB799_795 NB799_796; obtain ⟨_, _, _, _⟩ := sqc2 BK799))
 (try simp only [Act.put, List.setIfInBounds_toArray, List.set_cons_zero, List.set_cons_succ])
 go_cut [28] (fun v28 wc => ∃ (kq : Nat) (x28_4 : Bool), v28 = .bool x28_4 ∧ Aside0 (spec_RangeWiden.j0 kq l2 x28_4 a0_0 a0_1 t797 t798 = some (r1, r2)) ∧ Aside0 (kq ≤ k) ∧ Aside0 (wc.heap[gb794]? = some (.cells #[.int .i64 a0_0, .int .i64 a0_1] 24 (0, 0))) ∧ Aside0 (wc.heap[gb795]? = some (.cells #[.int .i64 a1_0, .int .i64 a1_1] 24 (0, 0))) ∧ Aside0 (wc.heap[gb796]? = some (.cells #[.int .i64 0, .int .i64 0] 24 (0, 0))) ∧ Aside0 (wc.heap[gb799]? = some (.cells #[.int .i64 t797, .int .i64 t798] 24 (0, 0))) ∧ Aside0 (Below w.heap.size w wc))
 case first =>
  have H := HC5.out
  clear HC5
  replace H := sqbi H
  obtain ⟨t800, A20, H⟩ := H
  try dsimp only at H
  rcases sqI (t800 = true) with c21 | c21
  ·replace c21 := Bool.eq_false_iff.mpr c21
   subst c21
   have H1 : (spec_RangeWiden.j0 k l2 true a0_0 a0_1 t797 t798) = some (r1, r2) := by rw [if_neg (show ¬ (false = true) by decide)] at H; exact H
   clear H
   have H := H1
   clear H1
   have H' := Aside0.mk H
   clear H
   try go_wp2
   obtain ⟨w42, hw_⟩ : ∃ w_, w_ = ((w15.setCell ⟨gb799, 0, none⟩ (.int .i64 t797)).setCell ⟨gb799, 1, none⟩ (.int .i64 t798)) := ⟨_, rfl⟩
   replace BK794 := sqTe hw_ BK794
   replace BK795 := sqTe hw_ BK795
   replace BK796 := sqTe hw_ BK796
   replace BK799 : Aside0 (w42.heap[gb799]? = some (.cells #[.int .i64 t797, .int .i64 t798] 24 (0, 0))) := by rw [hw_]; exact ⟨sqP BK799⟩
   replace HB : Aside0 (Below w.heap.size w w42) := by rw [hw_]; exact sqh HB
   rw [← hw_]
   clear hw_
   replace BK794 := sqdr BK794
   replace BK795 := sqdr BK795
   replace BK796 := sqdr BK796
   replace BK799 := sqdr BK799
   replace HB := sqdB HB
   refine sqst 18 (fun w' => w'.cell? ⟨gb794, 0, none⟩ = some (.int .i64 a0_0) ∧ w'.cell? ⟨gb794, 1, none⟩ = some (.int .i64 a0_1)) sqz (fun hHeld => ?_); refine with_tabW spec_RangeWiden.tab2 spec_RangeWiden.bits2 (fun HT_ HW_ => ?_)
   generalize w42.drew = w43 at BK794 BK795 BK796 BK799 HB hHeld ⊢
   refine sqw HT_ HW_ 0 11 hHeld ?_
   refine sqo HT_ 1 12 (fun K hK => ?_)
   refine sqG Try.func45 #[.agg #[.int .i64 a0_0, .int .i64 a0_1]] ?_
   with_reducible refine (spec_RangeOk.calls a0_0 a0_1 false _ A20.out).mono ?_
   rintro e w44 ⟨rfl, hb⟩
   refine ⟨_, rfl, ?_⟩
   refine sqM4 BK794 BK795 BK796 BK799 hb ?_; clear BK794 BK795 BK796 BK799; intro BK794 BK795 BK796 BK799
   replace HB := sqs HB hb
   (try clear hb)
   refine hK.out _ _ sqz (fun hHeld => ?_)
   clear hK K
   refine sqnm ?_
   refine sqp HT_ 2 13 ?_
   refine sqp HT_ 3 14 ?_
   refine sqpu HT_ 4 15 ?_
   refine sqpu HT_ 5 16 ?_
   refine sqpu HT_ 6 17 ?_
   refine sqp HT_ 7 18 ?_
   refine sqp HT_ 8 19 ?_
   refine sqpu HT_ 9 20 ?_
   refine sqpu HT_ 10 21 ?_
   refine sqpu HT_ 11 22 ?_
   refine sqp HT_ 12 23 ?_
   refine sqp HT_ 13 24 ?_
   refine sqpu HT_ 14 25 ?_
   refine sqpu HT_ 15 26 ?_
   refine sqpu HT_ 16 27 ?_
   refine sqp HT_ 17 28 ?_
   refine done_ (done_of HT_.out (by kernel_rfl)) ?_
   try go_wp2
   go_meet
   case rel => exact ⟨_, (true), (by first | rfl | (simp; done) | (simp [*]; done)), H', ⟨by first | omega | exact Nat.le_refl _⟩, sqk BK794, sqk BK795, sqk BK796, sqk BK799, sqh HB⟩
  subst c21
  have H1 : ((spec_RangeOk.f a1_0 a1_1).bind fun t801 => (if t801 = true then ((spec_l8None.f).bind fun bt802 => (if (a0_0 == bt802.1 && (a0_1 == bt802.2)) = true then (spec_RangeWiden.j0 k l2 true a0_0 a0_1 t797 t798) else ((spec_l8None.f).bind fun bt804 => (spec_RangeWiden.j0 k l2 (a1_0 == bt804.1 && (a1_1 == bt804.2)) a0_0 a0_1 t797 t798)))) else (spec_RangeWiden.j0 k l2 true a0_0 a0_1 t797 t798))) = some (r1, r2) := by rw [if_pos rfl] at H; exact H
  clear H
  have H := H1
  clear H1
  replace H := sqbi H
  obtain ⟨t801, A22, H⟩ := H
  try dsimp only at H
  rcases sqI (t801 = true) with c23 | c23
  ·replace c23 := Bool.eq_false_iff.mpr c23
   subst c23
   have H1 : (spec_RangeWiden.j0 k l2 true a0_0 a0_1 t797 t798) = some (r1, r2) := by rw [if_neg (show ¬ (false = true) by decide)] at H; exact H
   clear H
   have H := H1
   clear H1
   have H' := Aside0.mk H
   clear H
   try go_wp2
   obtain ⟨w38, hw_⟩ : ∃ w_, w_ = ((w15.setCell ⟨gb799, 0, none⟩ (.int .i64 t797)).setCell ⟨gb799, 1, none⟩ (.int .i64 t798)) := ⟨_, rfl⟩
   replace BK794 := sqTe hw_ BK794
   replace BK795 := sqTe hw_ BK795
   replace BK796 := sqTe hw_ BK796
   replace BK799 : Aside0 (w38.heap[gb799]? = some (.cells #[.int .i64 t797, .int .i64 t798] 24 (0, 0))) := by rw [hw_]; exact ⟨sqP BK799⟩
   replace HB : Aside0 (Below w.heap.size w w38) := by rw [hw_]; exact sqh HB
   rw [← hw_]
   clear hw_
   replace BK794 := sqdr BK794
   replace BK795 := sqdr BK795
   replace BK796 := sqdr BK796
   replace BK799 := sqdr BK799
   replace HB := sqdB HB
   refine sqst 18 (fun w' => w'.cell? ⟨gb794, 0, none⟩ = some (.int .i64 a0_0) ∧ w'.cell? ⟨gb794, 1, none⟩ = some (.int .i64 a0_1) ∧ w'.cell? ⟨gb795, 0, none⟩ = some (.int .i64 a1_0) ∧ w'.cell? ⟨gb795, 1, none⟩ = some (.int .i64 a1_1)) sqz (fun hHeld => ?_); refine with_tabW spec_RangeWiden.tab2 spec_RangeWiden.bits2 (fun HT_ HW_ => ?_)
   generalize w38.drew = w39 at BK794 BK795 BK796 BK799 HB hHeld ⊢
   refine sqw HT_ HW_ 0 11 hHeld ?_
   refine sqo HT_ 1 12 (fun K hK => ?_)
   refine sqG Try.func45 #[.agg #[.int .i64 a0_0, .int .i64 a0_1]] ?_
   with_reducible refine (spec_RangeOk.calls a0_0 a0_1 true _ A20.out).mono ?_
   rintro e w40 ⟨rfl, hb⟩
   refine ⟨_, rfl, ?_⟩
   refine sqM4 BK794 BK795 BK796 BK799 hb ?_; clear BK794 BK795 BK796 BK799; intro BK794 BK795 BK796 BK799
   replace HB := sqs HB hb
   (try clear hb)
   refine hK.out _ _ sqz (fun hHeld => ?_)
   clear hK K
   refine sqnm ?_
   refine sqp HT_ 2 13 ?_
   refine sqp HT_ 3 14 ?_
   refine sqw HT_ HW_ 4 15 hHeld ?_
   refine sqo HT_ 5 16 (fun K hK => ?_)
   refine sqG Try.func45 #[.agg #[.int .i64 a1_0, .int .i64 a1_1]] ?_
   with_reducible refine (spec_RangeOk.calls a1_0 a1_1 false _ A22.out).mono ?_
   rintro e w41 ⟨rfl, hb⟩
   refine ⟨_, rfl, ?_⟩
   refine sqM4 BK794 BK795 BK796 BK799 hb ?_; clear BK794 BK795 BK796 BK799; intro BK794 BK795 BK796 BK799
   replace HB := sqs HB hb
   (try clear hb)
   refine hK.out _ _ sqz (fun hHeld => ?_)
   clear hK K
   refine sqnm ?_
   refine sqp HT_ 6 17 ?_
   refine sqp HT_ 7 18 ?_
   refine sqp HT_ 8 19 ?_
   refine sqpu HT_ 9 20 ?_
   refine sqpu HT_ 10 21 ?_
   refine sqpu HT_ 11 22 ?_
   refine sqp HT_ 12 23 ?_
   refine sqp HT_ 13 24 ?_
   refine sqpu HT_ 14 25 ?_
   refine sqpu HT_ 15 26 ?_
   refine sqpu HT_ 16 27 ?_
   refine sqp HT_ 17 28 ?_
   refine done_ (done_of HT_.out (by kernel_rfl)) ?_
   try go_wp2
   go_meet
   case rel => exact ⟨_, (true), (by first | rfl | (simp; done) | (simp [*]; done)), H', ⟨by first | omega | exact Nat.le_refl _⟩, sqk BK794, sqk BK795, sqk BK796, sqk BK799, sqh HB⟩
  subst c23
  have H1 : ((spec_l8None.f).bind fun bt802 => (if (a0_0 == bt802.1 && (a0_1 == bt802.2)) = true then (spec_RangeWiden.j0 k l2 true a0_0 a0_1 t797 t798) else ((spec_l8None.f).bind fun bt804 => (spec_RangeWiden.j0 k l2 (a1_0 == bt804.1 && (a1_1 == bt804.2)) a0_0 a0_1 t797 t798)))) = some (r1, r2) := by rw [if_pos rfl] at H; exact H
  clear H
  have H := H1
  clear H1
  replace H := sqbi H
  obtain ⟨⟨t802, t803⟩, A24, H⟩ := H
  try dsimp only at H
  replace H := sqj H
  rcases H with ⟨c25, H⟩ | ⟨c25, H⟩
  ·have c25b0 : (a0_0 == t802 && (a0_1 == t803)) = true := c25
   (try (have c25b1 : decide (a0_0 = t802 && (a0_1 == t803)) = true := by simpa using c25))
   (try (have c25b2 : (a0_0 == t802 && (a0_1 == t803)) = true := by simpa using c25))
   clear c25
   (first | rw [c25b0] | (simp only [i64_w, i32_w]; rw [c25b0]) | skip)
   have H' := Aside0.mk H
   clear H
   try go_wp2
   obtain ⟨w26, hw_⟩ : ∃ w_, w_ = ((w15.setCell ⟨gb799, 0, none⟩ (.int .i64 t797)).setCell ⟨gb799, 1, none⟩ (.int .i64 t798)) := ⟨_, rfl⟩
   replace BK794 := sqTe hw_ BK794
   replace BK795 := sqTe hw_ BK795
   replace BK796 := sqTe hw_ BK796
   replace BK799 : Aside0 (w26.heap[gb799]? = some (.cells #[.int .i64 t797, .int .i64 t798] 24 (0, 0))) := by rw [hw_]; exact ⟨sqP BK799⟩
   replace HB : Aside0 (Below w.heap.size w w26) := by rw [hw_]; exact sqh HB
   rw [← hw_]
   clear hw_
   replace BK794 := sqdr BK794
   replace BK795 := sqdr BK795
   replace BK796 := sqdr BK796
   replace BK799 := sqdr BK799
   replace HB := sqdB HB
   refine sqst 18 (fun w' => w'.cell? ⟨gb794, 0, none⟩ = some (.int .i64 a0_0) ∧ w'.cell? ⟨gb794, 1, none⟩ = some (.int .i64 a0_1) ∧ w'.cell? ⟨gb795, 0, none⟩ = some (.int .i64 a1_0) ∧ w'.cell? ⟨gb795, 1, none⟩ = some (.int .i64 a1_1)) sqz (fun hHeld => ?_); refine with_tabW spec_RangeWiden.tab2 spec_RangeWiden.bits2 (fun HT_ HW_ => ?_)
   generalize w26.drew = w27 at BK794 BK795 BK796 BK799 HB hHeld ⊢
   refine sqw HT_ HW_ 0 11 hHeld ?_
   refine sqo HT_ 1 12 (fun K hK => ?_)
   refine sqG Try.func45 #[.agg #[.int .i64 a0_0, .int .i64 a0_1]] ?_
   with_reducible refine (spec_RangeOk.calls a0_0 a0_1 true _ A20.out).mono ?_
   rintro e w28 ⟨rfl, hb⟩
   refine ⟨_, rfl, ?_⟩
   refine sqM4 BK794 BK795 BK796 BK799 hb ?_; clear BK794 BK795 BK796 BK799; intro BK794 BK795 BK796 BK799
   replace HB := sqs HB hb
   (try clear hb)
   refine hK.out _ _ sqz (fun hHeld => ?_)
   clear hK K
   refine sqnm ?_
   refine sqp HT_ 2 13 ?_
   refine sqp HT_ 3 14 ?_
   refine sqw HT_ HW_ 4 15 hHeld ?_
   refine sqo HT_ 5 16 (fun K hK => ?_)
   refine sqG Try.func45 #[.agg #[.int .i64 a1_0, .int .i64 a1_1]] ?_
   with_reducible refine (spec_RangeOk.calls a1_0 a1_1 true _ A22.out).mono ?_
   rintro e w29 ⟨rfl, hb⟩
   refine ⟨_, rfl, ?_⟩
   refine sqM4 BK794 BK795 BK796 BK799 hb ?_; clear BK794 BK795 BK796 BK799; intro BK794 BK795 BK796 BK799
   replace HB := sqs HB hb
   (try clear hb)
   refine hK.out _ _ sqz (fun hHeld => ?_)
   clear hK K
   refine sqnm ?_
   refine sqp HT_ 6 17 ?_
   refine sqp HT_ 7 18 ?_
   refine sqp HT_ 8 19 ?_
   refine sqw HT_ HW_ 9 20 hHeld ?_
   refine sqo HT_ 10 21 (fun K hK => ?_)
   refine sqG Try.func99 #[] ?_
   with_reducible refine (spec_l8None.calls  t802 t803 _ A24.out).mono ?_
   rintro e w30 ⟨rfl, hb⟩
   refine ⟨_, rfl, ?_⟩
   refine sqM4 BK794 BK795 BK796 BK799 hb ?_; clear BK794 BK795 BK796 BK799; intro BK794 BK795 BK796 BK799
   replace HB := sqs HB hb
   (try clear hb)
   refine hK.out _ _ sqz (fun hHeld => ?_)
   clear hK K
   refine sqnm ?_
   refine sqp HT_ 11 22 ?_
   refine sqp HT_ 12 23 ?_
   refine sqp HT_ 13 24 ?_
   refine sqpu HT_ 14 25 ?_
   refine sqpu HT_ 15 26 ?_
   refine sqpu HT_ 16 27 ?_
   refine sqp HT_ 17 28 ?_
   refine done_ (done_of HT_.out (by kernel_rfl)) ?_
   try go_wp2
   go_meet
   case rel => exact ⟨_, (true), (by first | rfl | (simp; done) | (simp [*]; done)), H', ⟨by first | omega | exact Nat.le_refl _⟩, sqk BK794, sqk BK795, sqk BK796, sqk BK799, sqh HB⟩
  have c25b0 : (a0_0 == t802 && (a0_1 == t803)) = false := by simpa using c25
  (try (have c25b1 : decide (a0_0 = t802 && (a0_1 == t803)) = false := by simpa using c25))
  (try (have c25b2 : (a0_0 == t802 && (a0_1 == t803)) = false := by simpa using c25))
  (try (have c25b3 : ¬ (a0_0 = t802 && (a0_1 == t803)) := by simpa using c25))
  clear c25
  (first | rw [c25b0] | (simp only [i64_w, i32_w]; rw [c25b0]) | skip)
  replace H := sqbi H
  obtain ⟨⟨t804, t805⟩, A31, H⟩ := H
  try dsimp only at H
  have H' := Aside0.mk H
  clear H
  try go_wp2
  obtain ⟨w32, hw_⟩ : ∃ w_, w_ = ((w15.setCell ⟨gb799, 0, none⟩ (.int .i64 t797)).setCell ⟨gb799, 1, none⟩ (.int .i64 t798)) := ⟨_, rfl⟩
  replace BK794 := sqTe hw_ BK794
  replace BK795 := sqTe hw_ BK795
  replace BK796 := sqTe hw_ BK796
  replace BK799 : Aside0 (w32.heap[gb799]? = some (.cells #[.int .i64 t797, .int .i64 t798] 24 (0, 0))) := by rw [hw_]; exact ⟨sqP BK799⟩
  replace HB : Aside0 (Below w.heap.size w w32) := by rw [hw_]; exact sqh HB
  rw [← hw_]
  clear hw_
  replace BK794 := sqdr BK794
  replace BK795 := sqdr BK795
  replace BK796 := sqdr BK796
  replace BK799 := sqdr BK799
  replace HB := sqdB HB
  refine sqst 18 (fun w' => w'.cell? ⟨gb794, 0, none⟩ = some (.int .i64 a0_0) ∧ w'.cell? ⟨gb794, 1, none⟩ = some (.int .i64 a0_1) ∧ w'.cell? ⟨gb795, 0, none⟩ = some (.int .i64 a1_0) ∧ w'.cell? ⟨gb795, 1, none⟩ = some (.int .i64 a1_1)) sqz (fun hHeld => ?_); refine with_tabW spec_RangeWiden.tab2 spec_RangeWiden.bits2 (fun HT_ HW_ => ?_)
  generalize w32.drew = w33 at BK794 BK795 BK796 BK799 HB hHeld ⊢
  refine sqw HT_ HW_ 0 11 hHeld ?_
  refine sqo HT_ 1 12 (fun K hK => ?_)
  refine sqG Try.func45 #[.agg #[.int .i64 a0_0, .int .i64 a0_1]] ?_
  with_reducible refine (spec_RangeOk.calls a0_0 a0_1 true _ A20.out).mono ?_
  rintro e w34 ⟨rfl, hb⟩
  refine ⟨_, rfl, ?_⟩
  refine sqM4 BK794 BK795 BK796 BK799 hb ?_; clear BK794 BK795 BK796 BK799; intro BK794 BK795 BK796 BK799
  replace HB := sqs HB hb
  (try clear hb)
  refine hK.out _ _ sqz (fun hHeld => ?_)
  clear hK K
  refine sqnm ?_
  refine sqp HT_ 2 13 ?_
  refine sqp HT_ 3 14 ?_
  refine sqw HT_ HW_ 4 15 hHeld ?_
  refine sqo HT_ 5 16 (fun K hK => ?_)
  refine sqG Try.func45 #[.agg #[.int .i64 a1_0, .int .i64 a1_1]] ?_
  with_reducible refine (spec_RangeOk.calls a1_0 a1_1 true _ A22.out).mono ?_
  rintro e w35 ⟨rfl, hb⟩
  refine ⟨_, rfl, ?_⟩
  refine sqM4 BK794 BK795 BK796 BK799 hb ?_; clear BK794 BK795 BK796 BK799; intro BK794 BK795 BK796 BK799
  replace HB := sqs HB hb
  (try clear hb)
  refine hK.out _ _ sqz (fun hHeld => ?_)
  clear hK K
  refine sqnm ?_
  refine sqp HT_ 6 17 ?_
  refine sqp HT_ 7 18 ?_
  refine sqp HT_ 8 19 ?_
  refine sqw HT_ HW_ 9 20 hHeld ?_
  refine sqo HT_ 10 21 (fun K hK => ?_)
  refine sqG Try.func99 #[] ?_
  with_reducible refine (spec_l8None.calls  t802 t803 _ A24.out).mono ?_
  rintro e w36 ⟨rfl, hb⟩
  refine ⟨_, rfl, ?_⟩
  refine sqM4 BK794 BK795 BK796 BK799 hb ?_; clear BK794 BK795 BK796 BK799; intro BK794 BK795 BK796 BK799
  replace HB := sqs HB hb
  (try clear hb)
  refine hK.out _ _ sqz (fun hHeld => ?_)
  clear hK K
  refine sqnm ?_
  refine sqp HT_ 11 22 ?_
  refine sqp HT_ 12 23 ?_
  refine sqp HT_ 13 24 ?_
  refine sqw HT_ HW_ 14 25 hHeld ?_
  refine sqo HT_ 15 26 (fun K hK => ?_)
  refine sqG Try.func99 #[] ?_
  with_reducible refine (spec_l8None.calls  t804 t805 _ A31.out).mono ?_
  rintro e w37 ⟨rfl, hb⟩
  refine ⟨_, rfl, ?_⟩
  refine sqM4 BK794 BK795 BK796 BK799 hb ?_; clear BK794 BK795 BK796 BK799; intro BK794 BK795 BK796 BK799
  replace HB := sqs HB hb
  (try clear hb)
  refine hK.out _ _ sqz (fun hHeld => ?_)
  clear hK K
  refine sqnm ?_
  refine sqp HT_ 16 27 ?_
  refine sqp HT_ 17 28 ?_
  refine done_ (done_of HT_.out (by kernel_rfl)) ?_
  try go_wp2
  go_meet
  case rel => exact ⟨_, ((a1_0 == t804 && (a1_1 == t805))), (by first | rfl | (simp; done) | (simp [*]; done)), H', ⟨by first | omega | exact Nat.le_refl _⟩, sqk BK794, sqk BK795, sqk BK796, sqk BK799, sqh HB⟩
 case rest =>
  clear HC5
  obtain ⟨kq, x28_4, rfl, HA, HJ4, BK794, BK795, BK796, BK799, HB⟩ := hcut
  cases kq with
  | zero => exact absurd HA.out (by simp [spec_RangeWiden.j0])
  | succ kj4 =>
   have H := HA.out
   clear HA
   simp only [spec_RangeWiden.j0] at H
   by_cases c45 : x28_4 = true
   ·subst c45
    have H1 : (some (t797, t798)) = some (r1, r2) := by rw [if_pos rfl] at H; exact H
    clear H
    have H := H1
    clear H1
    simp only [Option.some.injEq, Prod.mk.injEq] at H
    obtain ⟨rfl, rfl⟩ := H
    obtain ⟨_, _, _, _, _, _⟩ := sqN3 NB799_794 NB799_795 NB799_796
    obtain ⟨_, _, _, _⟩ := sqc2 BK799
    obtain ⟨_, _, _, _⟩ := sqN2 NB796_794 NB796_795
    obtain ⟨_, _, _, _⟩ := sqc2 BK796
    go_wp2
    refine bodyPost_ret (results_cell_row rfl _ _ gb796 24 #[.int .i64 t797, .int .i64 t798] (0, 0) _ rfl (sqP BK796) Try.underlying24 rfl (by kernel_rfl)) rfl ?_
    exact sqe HB
   replace c45 := Bool.eq_false_iff.mpr c45
   subst c45
   have H1 : (if t797 < a0_0 then ((spec_l8Down.f kj4 l2 t797).bind fun t806 => (if t798 > a0_1 then ((spec_l8Up.f kj4 l2 t798).bind fun t807 => (some (t806, t807))) else (some (t806, t798)))) else (if t798 > a0_1 then ((spec_l8Up.f kj4 l2 t798).bind fun t808 => (some (t797, t808))) else (some (t797, t798)))) = some (r1, r2) := by rw [if_neg (show ¬ (false = true) by decide)] at H; exact H
   clear H
   have H := H1
   clear H1
   replace H := sqi H
   rcases H with ⟨c53, H⟩ | ⟨c53, H⟩
   ·have c53b0 := decide_eq_false c53
    clear c53
    replace H := sqi H
    rcases H with ⟨c75, H⟩ | ⟨c75, H⟩
    ·have c75b0 : decide (a0_1 < t798) = false := decide_eq_false c75
     clear c75
     simp only [Option.some.injEq, Prod.mk.injEq] at H
     obtain ⟨rfl, rfl⟩ := H
     obtain ⟨_, _, _, _, _, _⟩ := sqN3 NB799_794 NB799_795 NB799_796
     obtain ⟨_, _, _, _⟩ := sqc2 BK799
     obtain ⟨_, _, _, _⟩ := sqN2 NB794_795 NB794_796
     obtain ⟨_, _, _, _⟩ := sqc2 BK794
     obtain ⟨_, _⟩ := sqN1 NB796_795
     obtain ⟨_, _, _, _⟩ := sqc2 BK796
     go_wp2
     refine bodyPost_ret (results_cell_row rfl _ _ gb796 24 #[.int .i64 t797, .int .i64 t798] (0, 0) _ rfl (sqP BK796) Try.underlying24 rfl (by kernel_rfl)) rfl ?_
     exact sqe HB
    have c75b0 : decide (a0_1 < t798) = true := decide_eq_true c75
    clear c75
    replace H := sqbi H
    obtain ⟨t808, A76, H⟩ := H
    try dsimp only at H
    simp only [Option.some.injEq, Prod.mk.injEq] at H
    obtain ⟨rfl, rfl⟩ := H
    obtain ⟨_, _, _, _, _, _⟩ := sqN3 NB799_794 NB799_795 NB799_796
    obtain ⟨_, _, _, _⟩ := sqc2 BK799
    obtain ⟨_, _, _, _⟩ := sqN2 NB794_795 NB794_796
    obtain ⟨_, _, _, _⟩ := sqc2 BK794
    go_wp2_with (first | ((with_reducible refine gate_callee (f := 218) rfl ?_); refine sqL (some 48) Try.func218 #[.slice A2 l2.length c2, .int .i64 t798] ?_; (with_reducible refine (spec_l8Up.calls kj4 _ _ l2 t798 t808 _ ?side1 ?side2 A76.out).mono ?_); (case side1 => exact sqC (Kd.C_below HR2.out HB.out)); (case side2 => exact HC2.out); rintro e w' ⟨rfl, ⟨nd, rfl⟩⟩; refine ⟨_, rfl, ?_⟩; (try (rw [drewN_self wc]; generalize hq_ : World.drewN wc _ = wc; replace BK794 := sqq BK794 hq_; replace BK795 := sqq BK795 hq_; replace BK796 := sqq BK796 hq_; replace BK799 := sqq BK799 hq_; replace HB := sqr HB hq_; clear hq_; obtain ⟨hqz9_0, hqz9_1, hqf9_0, hqf9_1⟩ := sqc2 BK794; obtain ⟨hqz10_0, hqz10_1, hqf10_0, hqf10_1⟩ := sqc2 BK795; obtain ⟨hqz11_0, hqz11_1, hqf11_0, hqf11_1⟩ := sqc2 BK796; obtain ⟨hqz12_0, hqz12_1, hqf12_0, hqf12_1⟩ := sqc2 BK799)); obtain ⟨_, _⟩ := sqN1 NB796_795; obtain ⟨_, _, _, _⟩ := sqc2 BK796))
    refine bodyPost_ret (results_cell_row rfl _ _ gb796 24 #[.int .i64 t797, .int .i64 t808] (0, 0) _ rfl (sqP BK796) Try.underlying24 rfl (by kernel_rfl)) rfl ?_
    exact sqe HB
   have c53b0 := decide_eq_true c53
   clear c53
   replace H := sqbi H
   obtain ⟨t806, A54, H⟩ := H
   try dsimp only at H
   replace H := sqi H
   rcases H with ⟨c55, H⟩ | ⟨c55, H⟩
   ·have c55b0 : decide (a0_1 < t798) = false := decide_eq_false c55
    clear c55
    simp only [Option.some.injEq, Prod.mk.injEq] at H
    obtain ⟨rfl, rfl⟩ := H
    obtain ⟨_, _, _, _, _, _⟩ := sqN3 NB799_794 NB799_795 NB799_796
    obtain ⟨_, _, _, _⟩ := sqc2 BK799
    obtain ⟨_, _, _, _⟩ := sqN2 NB794_795 NB794_796
    obtain ⟨_, _, _, _⟩ := sqc2 BK794
    go_wp2_with (first | ((with_reducible refine gate_callee (f := 217) rfl ?_); refine sqL (some 38) Try.func217 #[.slice A2 l2.length c2, .int .i64 t797] ?_; (with_reducible refine (spec_l8Down.calls kj4 _ _ l2 t797 t806 _ ?side1 ?side2 A54.out).mono ?_); (case side1 => exact sqC (Kd.C_below HR2.out HB.out)); (case side2 => exact HC2.out); rintro e w' ⟨rfl, ⟨nd, rfl⟩⟩; refine ⟨_, rfl, ?_⟩; (try (rw [drewN_self wc]; generalize hq_ : World.drewN wc _ = wc; replace BK794 := sqq BK794 hq_; replace BK795 := sqq BK795 hq_; replace BK796 := sqq BK796 hq_; replace BK799 := sqq BK799 hq_; replace HB := sqr HB hq_; clear hq_; obtain ⟨hqz5_0, hqz5_1, hqf5_0, hqf5_1⟩ := sqc2 BK794; obtain ⟨hqz6_0, hqz6_1, hqf6_0, hqf6_1⟩ := sqc2 BK795; obtain ⟨hqz7_0, hqz7_1, hqf7_0, hqf7_1⟩ := sqc2 BK796; obtain ⟨hqz8_0, hqz8_1, hqf8_0, hqf8_1⟩ := sqc2 BK799)); obtain ⟨_, _⟩ := sqN1 NB796_795; obtain ⟨_, _, _, _⟩ := sqc2 BK796))
    refine bodyPost_ret (results_cell_row rfl _ _ gb796 24 #[.int .i64 t806, .int .i64 t798] (0, 0) _ rfl (sqP BK796) Try.underlying24 rfl (by kernel_rfl)) rfl ?_
    exact sqe HB
   have c55b0 : decide (a0_1 < t798) = true := decide_eq_true c55
   clear c55
   replace H := sqbi H
   obtain ⟨t807, A56, H⟩ := H
   try dsimp only at H
   simp only [Option.some.injEq, Prod.mk.injEq] at H
   obtain ⟨rfl, rfl⟩ := H
   obtain ⟨_, _, _, _, _, _⟩ := sqN3 NB799_794 NB799_795 NB799_796
   obtain ⟨_, _, _, _⟩ := sqc2 BK799
   obtain ⟨_, _, _, _⟩ := sqN2 NB794_795 NB794_796
   obtain ⟨_, _, _, _⟩ := sqc2 BK794
   go_wp2_with (first | ((with_reducible refine gate_callee (f := 217) rfl ?_); refine sqL (some 38) Try.func217 #[.slice A2 l2.length c2, .int .i64 t797] ?_; (with_reducible refine (spec_l8Down.calls kj4 _ _ l2 t797 t806 _ ?side1 ?side2 A54.out).mono ?_); (case side1 => exact sqC (Kd.C_below HR2.out HB.out)); (case side2 => exact HC2.out); rintro e w' ⟨rfl, ⟨nd, rfl⟩⟩; refine ⟨_, rfl, ?_⟩; (try (rw [drewN_self wc]; generalize hq_ : World.drewN wc _ = wc; replace BK794 := sqq BK794 hq_; replace BK795 := sqq BK795 hq_; replace BK796 := sqq BK796 hq_; replace BK799 := sqq BK799 hq_; replace HB := sqr HB hq_; clear hq_; obtain ⟨hqz1_0, hqz1_1, hqf1_0, hqf1_1⟩ := sqc2 BK794; obtain ⟨hqz2_0, hqz2_1, hqf2_0, hqf2_1⟩ := sqc2 BK795; obtain ⟨hqz3_0, hqz3_1, hqf3_0, hqf3_1⟩ := sqc2 BK796; obtain ⟨hqz4_0, hqz4_1, hqf4_0, hqf4_1⟩ := sqc2 BK799))) | ((with_reducible refine gate_callee (f := 218) rfl ?_); refine sqL (some 48) Try.func218 #[.slice A2 l2.length c2, .int .i64 t798] ?_; (with_reducible refine (spec_l8Up.calls kj4 _ _ l2 t798 t807 _ ?side1 ?side2 A56.out).mono ?_); (case side1 => exact Kd.C_below HR2.out (sqB HB)); (case side2 => exact HC2.out); rintro e w' ⟨rfl, ⟨nd, rfl⟩⟩; refine ⟨_, rfl, ?_⟩; obtain ⟨_, _⟩ := sqN1 NB796_795; obtain ⟨_, _, _, _⟩ := sqc2 BK796))
   refine bodyPost_ret (results_cell_row rfl _ _ gb796 24 #[.int .i64 t806, .int .i64 t807] (0, 0) _ rfl (sqP BK796) Try.underlying24 rfl (by kernel_rfl)) rfl ?_
   exact sqe HB

end Go.Proofs.Ytkekcenlleebeaa.PFnValLattice
