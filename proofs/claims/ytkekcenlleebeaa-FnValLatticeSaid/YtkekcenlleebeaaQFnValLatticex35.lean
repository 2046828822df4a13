/- Functions of the program as plain Lean functions, and that calls of them come to what these tell. Conditions: those in each law. -/
import Derived.Test.YtkekcenlleebeaaSq
import Derived.Test.YtkekcenlleebeaaDFnValLattice
import Derived.Test.YtkekcenlleebeaaQFnValLatticex0
import Derived.Test.YtkekcenlleebeaaQFnValLatticex3
import Derived.Test.YtkekcenlleebeaaQFnValLatticex7
import Derived.Test.YtkekcenlleebeaaQFnValLatticex9
import Derived.Test.YtkekcenlleebeaaQFnValLatticex10
import Derived.Test.YtkekcenlleebeaaQFnValLatticex11
import Derived.Test.YtkekcenlleebeaaQFnValLatticex28
import Derived.Test.YtkekcenlleebeaaQFnValLatticex29
import Derived.Test.YtkekcenlleebeaaQFnValLatticex34
namespace Go.Proofs.Ytkekcenlleebeaa.PFnValLattice
open Go.RowKit Go.Proofs.Ytkekcenlleebeaa.Sq Go.Proofs.YtkekcenlleebeaaW.PrintWords Go.Proofs.YtkekcenlleebeaaW.PrintLast Go.Proofs.YtkekcenlleebeaaW.PrintMore
attribute [local go_sem] max2_int min2_int max_two min_two max_three min_three max_four min_four   -- for this text's walks alone
set_option linter.unusedVariables false
set_option linter.unusedSimpArgs false

attribute [local go_sem high] eqA30
/-! ### spec_ValWiden: function 91 -/
def spec_ValWiden.T2 : Bool × List (List Nat × List Nat) := (true, [([], []), ([0], [0]), ([1], [1]), ([2, 1], [2]), ([3], [3]), ([4, 3, 3], [3, 4]), ([5, 3], [3, 5]), ([3, 6], [3, 6]), ([7, 5], [7]), ([8], [8]), ([8, 8], [8]), ([9, 10, 8], [8, 9, 10]), ([8, 11], [8, 11]), ([12, 10], [12]), ([13], [13]), ([13, 13], [13]), ([14, 15, 13], [13, 14, 15]), ([13, 16], [13, 16])])
def spec_ValWiden.B2 : List Nat := [0, 1, 3, 7, 15, 31, 63, 127, 255, 511, 511, 2047, 4095, 8191, 16383, 16383, 65535, 131071]
theorem spec_ValWiden.tab2 : rtab .any (opsOf Try.f91 2) = spec_ValWiden.T2 := by kernel_rfl
theorem spec_ValWiden.bits2 : waitsOk spec_ValWiden.T2.2 spec_ValWiden.B2 = true := by kernel_rfl
def spec_ValWiden.T4 : Bool × List (List Nat × List Nat) := (true, [([], []), ([0], [0]), ([], []), ([2, 1], [2]), ([], []), ([1, 3, 4, 3], [1, 3, 4]), ([], []), ([6, 5], [6]), ([], []), ([8, 7], [8]), ([7, 9, 9], [7, 9]), ([5, 10, 10], [5, 10]), ([11, 11, 0, 1, 2, 3, 4, 5, 6, 7, 8, 9, 10, 11], [11])])
def spec_ValWiden.B4 : List Nat := [0, 1, 0, 7, 0, 31, 0, 127, 0, 511, 1023, 2047, 4095]
theorem spec_ValWiden.tab4 : rtab .any (opsOf Try.f91 4) = spec_ValWiden.T4 := by kernel_rfl
theorem spec_ValWiden.bits4 : waitsOk spec_ValWiden.T4.2 spec_ValWiden.B4 = true := by kernel_rfl
set_option maxHeartbeats 8000000 in
set_option maxRecDepth 100000 in
theorem spec_ValWiden.calls (k : Nat) (a0_0 : Int) (a0_1 : Int) (a0_2 : Int) (a0_3 : Int) (a1_0 : Int) (a1_1 : Int) (a1_2 : Int) (a1_3 : Int) (A2 : Option Addr) (c2 : Nat) (l2 : List Int) (r1 : Int) (r2 : Int) (r3 : Int) (r4 : Int) (w : World) (hr2 : Kd.C (Kd.int .i64) w A2 l2.length l2) (hc2 : l2.length ≤ c2) (h : spec_ValWiden.f k a0_0 a0_1 a0_2 a0_3 a1_0 a1_1 a1_2 a1_3 l2 = some (r1, r2, r3, r4)) :
  Calls Try.prog 91 #[.agg #[.int .i64 a0_0, .int .i64 a0_1, .int .i64 a0_2, .int .i64 a0_3], .agg #[.int .i64 a1_0, .int .i64 a1_1, .int .i64 a1_2, .int .i64 a1_3], .slice A2 l2.length c2] w fun e w' => e = .returned (.agg #[.int .i64 r1, .int .i64 r2, .int .i64 r3, .int .i64 r4]) ∧ Below w.heap.size w w' := by
 have hu30 := Try.underlying30
 have HR2 := Aside0.mk hr2
 have HC2 := Aside0.mk hc2
 clear hr2 hc2
 have HB := Aside0.mk (Below.refl w.heap.size w)
 have H := h
 unfold spec_ValWiden.f at H
 clear h
 replace H := sqbi H
 obtain ⟨⟨t812, t813, t814, t815⟩, A4, H⟩ := H
 try dsimp only at H
 have HC5 := Aside0.mk H
 clear H
 go_enter Try.func91, Try.ntmps91
 go_upto_region 2 with (first | ((with_reducible refine gate_dst (N := 3) rfl ?_); refine sqx 3 #[.int .i64 a0_0, .int .i64 a0_1, .int .i64 a0_2, .int .i64 a0_3] 30 ?_; intro gb809 hg w6 hbox hb; have BK809 := Aside0.mk hbox; have GW809 := sqg HB hg; replace HB := sqs HB hb; clear hb hbox hg) | ((with_reducible refine gate_dst (N := 4) rfl ?_); refine sqx 4 #[.int .i64 a1_0, .int .i64 a1_1, .int .i64 a1_2, .int .i64 a1_3] 30 ?_; intro gb810 hg w7 hbox hb; have BK810 := Aside0.mk hbox; have GW810 := sqg HB hg; have NB809_810 := sqn BK809 hg; have NB810_809 := sqm BK809 hg; replace BK809 := sqb BK809 hb; replace HB := sqs HB hb; clear hb hbox hg) | ((with_reducible refine gate_dst (N := 6) rfl ?_); refine sqx 6 #[.int .i64 0, .int .i64 0, .int .i64 0, .int .i64 0] 30 ?_; intro gb811 hg w8 hbox hb; have BK811 := Aside0.mk hbox; have GW811 := sqg HB hg; have NB809_811 := sqn BK809 hg; have NB811_809 := sqm BK809 hg; have NB810_811 := sqn BK810 hg; have NB811_810 := sqm BK810 hg; refine sqM2 BK809 BK810 hb ?_; clear BK809 BK810; intro BK809 BK810; replace HB := sqs HB hb; clear hb hbox hg; obtain ⟨_, _, _, _⟩ := sqN2 NB809_810 NB809_811; obtain ⟨_, _, _, _, _, _, _, _⟩ := sqc4 BK809; obtain ⟨_, _⟩ := sqN1 NB810_811; obtain ⟨_, _, _, _, _, _, _, _⟩ := sqc4 BK810) | ((with_reducible refine gate_callee (f := 89) rfl ?_); refine sqL (some 10) Try.func89 #[.agg #[.int .i64 a0_0, .int .i64 a0_1, .int .i64 a0_2, .int .i64 a0_3], .agg #[.int .i64 a1_0, .int .i64 a1_1, .int .i64 a1_2, .int .i64 a1_3]] ?_; (with_reducible refine (spec_ValJoin.calls k a0_0 a0_1 a0_2 a0_3 a1_0 a1_1 a1_2 a1_3 t812 t813 t814 t815 _ A4.out).mono ?_); rintro e w14 ⟨rfl, hb⟩; refine ⟨_, rfl, ?_⟩; refine sqM3 BK809 BK810 BK811 hb ?_; clear BK809 BK810 BK811; intro BK809 BK810 BK811; replace HB := sqs HB hb; (try clear hb)) | ((with_reducible refine gate_dst (N := 7) rfl ?_); refine sqx 7 #[.int .i64 0, .int .i64 0, .int .i64 0, .int .i64 0] 30 ?_; intro gb816 hg w15 hbox hb; have BK816 := Aside0.mk hbox; have GW816 := sqg HB hg; have NB809_816 := sqn BK809 hg; have NB816_809 := sqm BK809 hg; have NB810_816 := sqn BK810 hg; have NB816_810 := sqm BK810 hg; have NB811_816 := sqn BK811 hg; have NB816_811 := sqm BK811 hg; refine sqM3 BK809 BK810 BK811 hb ?_; clear BK809 BK810 BK811; intro BK809 BK810 BK811; replace HB := sqs HB hb; clear hb hbox hg; obtain ⟨_, _, _, _, _, _⟩ := sqN3 NB816_809 NB816_810 NB816_811; obtain ⟨_, _, _, _, _, _, _, _⟩ := sqc4 BK816))
 (try simp only [Act.put, List.setIfInBounds_toArray, List.set_cons_zero, List.set_cons_succ])
 go_cut [28] (fun v28 wc => ∃ (kq : Nat) (x28_4 : Bool), v28 = .bool x28_4 ∧ Aside0 (spec_ValWiden.j0 kq l2 x28_4 a0_0 a0_1 a0_2 a0_3 a1_0 a1_1 a1_2 a1_3 t812 t813 t814 t815 = some (r1, r2, r3, r4)) ∧ Aside0 (kq ≤ k) ∧ Aside0 (wc.heap[gb809]? = some (.cells #[.int .i64 a0_0, .int .i64 a0_1, .int .i64 a0_2, .int .i64 a0_3] 30 (0, 0))) ∧ Aside0 (wc.heap[gb810]? = some (.cells #[.int .i64 a1_0, .int .i64 a1_1, .int .i64 a1_2, .int .i64 a1_3] 30 (0, 0))) ∧ Aside0 (wc.heap[gb811]? = some (.cells #[.int .i64 0, .int .i64 0, .int .i64 0, .int .i64 0] 30 (0, 0))) ∧ Aside0 (wc.heap[gb816]? = some (.cells #[.int .i64 t812, .int .i64 t813, .int .i64 t814, .int .i64 t815] 30 (0, 0))) ∧ Aside0 (Below w.heap.size w wc))
 case first =>
  have H := HC5.out
  clear HC5
  replace H := sqbi H
  obtain ⟨t817, A20, H⟩ := H
  try dsimp only at H
  rcases sqI (t817 = true) with c21 | c21
  ·replace c21 := Bool.eq_false_iff.mpr c21
   subst c21
   have H1 : (spec_ValWiden.j0 k l2 true a0_0 a0_1 a0_2 a0_3 a1_0 a1_1 a1_2 a1_3 t812 t813 t814 t815) = some (r1, r2, r3, r4) := by rw [if_neg (show ¬ (false = true) by decide)] at H; exact H
   clear H
   have H := H1
   clear H1
   have H' := Aside0.mk H
   clear H
   try go_wp2
   obtain ⟨w42, hw_⟩ : ∃ w_, w_ = ((((w15.setCell ⟨gb816, 0, none⟩ (.int .i64 t812)).setCell ⟨gb816, 1, none⟩ (.int .i64 t813)).setCell ⟨gb816, 2, none⟩ (.int .i64 t814)).setCell ⟨gb816, 3, none⟩ (.int .i64 t815)) := ⟨_, rfl⟩
   replace BK809 := sqTe hw_ BK809
   replace BK810 := sqTe hw_ BK810
   replace BK811 := sqTe hw_ BK811
   replace BK816 : Aside0 (w42.heap[gb816]? = some (.cells #[.int .i64 t812, .int .i64 t813, .int .i64 t814, .int .i64 t815] 30 (0, 0))) := by rw [hw_]; exact ⟨sqP BK816⟩
   replace HB : Aside0 (Below w.heap.size w w42) := by rw [hw_]; exact sqh HB
   rw [← hw_]
   clear hw_
   replace BK809 := sqdr BK809
   replace BK810 := sqdr BK810
   replace BK811 := sqdr BK811
   replace BK816 := sqdr BK816
   replace HB := sqdB HB
   refine sqst 18 (fun w' => w'.cell? ⟨gb809, 0, none⟩ = some (.int .i64 a0_0) ∧ w'.cell? ⟨gb809, 1, none⟩ = some (.int .i64 a0_1) ∧ w'.cell? ⟨gb809, 2, none⟩ = some (.int .i64 a0_2) ∧ w'.cell? ⟨gb809, 3, none⟩ = some (.int .i64 a0_3)) sqz (fun hHeld => ?_); refine with_tabW spec_ValWiden.tab2 spec_ValWiden.bits2 (fun HT_ HW_ => ?_)
   generalize w42.drew = w43 at BK809 BK810 BK811 BK816 HB hHeld ⊢
   refine sqw HT_ HW_ 0 11 hHeld ?_
   refine sqo HT_ 1 12 (fun K hK => ?_)
   refine sqG Try.func80 #[.agg #[.int .i64 a0_0, .int .i64 a0_1, .int .i64 a0_2, .int .i64 a0_3]] ?_
   with_reducible refine (spec_ValOk.calls k a0_0 a0_1 a0_2 a0_3 false _ A20.out).mono ?_
   rintro e w44 ⟨rfl, hb⟩
   refine ⟨_, rfl, ?_⟩
   refine sqM4 BK809 BK810 BK811 BK816 hb ?_; clear BK809 BK810 BK811 BK816; intro BK809 BK810 BK811 BK816
   replace HB := sqs HB hb
   (try clear hb)
   refine hK.out _ _ sqz (fun hHeld => ?_)
   clear hK K
   refine sqnm ?_
   refine sqp HT_ 2 13 ?_
   refine sqp HT_ 3 14 ?_
   refine sqpu HT_ 4 15 ?_
   refine sqpu HT_ 5 16 ?_
   refine sqpu HT_ 6 17 ?_
   refine sqp HT_ 7 18 ?_
   refine sqp HT_ 8 19 ?_
   refine sqpu HT_ 9 20 ?_
   refine sqpu HT_ 10 21 ?_
   refine sqpu HT_ 11 22 ?_
   refine sqp HT_ 12 23 ?_
   refine sqp HT_ 13 24 ?_
   refine sqpu HT_ 14 25 ?_
   refine sqpu HT_ 15 26 ?_
   refine sqpu HT_ 16 27 ?_
   refine sqp HT_ 17 28 ?_
   refine done_ (done_of HT_.out (by kernel_rfl)) ?_
   try go_wp2
   go_meet
   case rel => exact ⟨_, (true), (by first | rfl | (simp; done) | (simp [*]; done)), H', ⟨by first | omega | exact Nat.le_refl _⟩, sqk BK809, sqk BK810, sqk BK811, sqk BK816, sqh HB⟩
  subst c21
  have H1 : ((spec_ValOk.f k a1_0 a1_1 a1_2 a1_3).bind fun t818 => (if t818 = true then ((spec_l10None.f).bind fun bt819 => (if (a0_0 == bt819.1 && (a0_1 == bt819.2.1 && (a0_2 == bt819.2.2.1 && (a0_3 == bt819.2.2.2)))) = true then (spec_ValWiden.j0 k l2 true a0_0 a0_1 a0_2 a0_3 a1_0 a1_1 a1_2 a1_3 t812 t813 t814 t815) else ((spec_l10None.f).bind fun bt823 => (spec_ValWiden.j0 k l2 (a1_0 == bt823.1 && (a1_1 == bt823.2.1 && (a1_2 == bt823.2.2.1 && (a1_3 == bt823.2.2.2)))) a0_0 a0_1 a0_2 a0_3 a1_0 a1_1 a1_2 a1_3 t812 t813 t814 t815)))) else (spec_ValWiden.j0 k l2 true a0_0 a0_1 a0_2 a0_3 a1_0 a1_1 a1_2 a1_3 t812 t813 t814 t815))) = some (r1, r2, r3, r4) := by rw [if_pos rfl] at H; exact H
  clear H
  have H := H1
  clear H1
  replace H := sqbi H
  obtain ⟨t818, A22, H⟩ := H
  try dsimp only at H
  rcases sqI (t818 = true) with c23 | c23
  ·replace c23 := Bool.eq_false_iff.mpr c23
   subst c23
   have H1 : (spec_ValWiden.j0 k l2 true a0_0 a0_1 a0_2 a0_3 a1_0 a1_1 a1_2 a1_3 t812 t813 t814 t815) = some (r1, r2, r3, r4) := by rw [if_neg (show ¬ (false = true) by decide)] at H; exact H
   clear H
   have H := H1
   clear H1
   have H' := Aside0.mk H
   clear H
   try go_wp2
   obtain ⟨w38, hw_⟩ : ∃ w_, w_ = ((((w15.setCell ⟨gb816, 0, none⟩ (.int .i64 t812)).setCell ⟨gb816, 1, none⟩ (.int .i64 t813)).setCell ⟨gb816, 2, none⟩ (.int .i64 t814)).setCell ⟨gb816, 3, none⟩ (.int .i64 t815)) := ⟨_, rfl⟩
   replace BK809 := sqTe hw_ BK809
   replace BK810 := sqTe hw_ BK810
   replace BK811 := sqTe hw_ BK811
   replace BK816 : Aside0 (w38.heap[gb816]? = some (.cells #[.int .i64 t812, .int .i64 t813, .int .i64 t814, .int .i64 t815] 30 (0, 0))) := by rw [hw_]; exact ⟨sqP BK816⟩
   replace HB : Aside0 (Below w.heap.size w w38) := by rw [hw_]; exact sqh HB
   rw [← hw_]
   clear hw_
   replace BK809 := sqdr BK809
   replace BK810 := sqdr BK810
   replace BK811 := sqdr BK811
   replace BK816 := sqdr BK816
   replace HB := sqdB HB
   refine sqst 18 (fun w' => w'.cell? ⟨gb809, 0, none⟩ = some (.int .i64 a0_0) ∧ w'.cell? ⟨gb809, 1, none⟩ = some (.int .i64 a0_1) ∧ w'.cell? ⟨gb809, 2, none⟩ = some (.int .i64 a0_2) ∧ w'.cell? ⟨gb809, 3, none⟩ = some (.int .i64 a0_3) ∧ w'.cell? ⟨gb810, 0, none⟩ = some (.int .i64 a1_0) ∧ w'.cell? ⟨gb810, 1, none⟩ = some (.int .i64 a1_1) ∧ w'.cell? ⟨gb810, 2, none⟩ = some (.int .i64 a1_2) ∧ w'.cell? ⟨gb810, 3, none⟩ = some (.int .i64 a1_3)) sqz (fun hHeld => ?_); refine with_tabW spec_ValWiden.tab2 spec_ValWiden.bits2 (fun HT_ HW_ => ?_)
   generalize w38.drew = w39 at BK809 BK810 BK811 BK816 HB hHeld ⊢
   refine sqw HT_ HW_ 0 11 hHeld ?_
   refine sqo HT_ 1 12 (fun K hK => ?_)
   refine sqG Try.func80 #[.agg #[.int .i64 a0_0, .int .i64 a0_1, .int .i64 a0_2, .int .i64 a0_3]] ?_
   with_reducible refine (spec_ValOk.calls k a0_0 a0_1 a0_2 a0_3 true _ A20.out).mono ?_
   rintro e w40 ⟨rfl, hb⟩
   refine ⟨_, rfl, ?_⟩
   refine sqM4 BK809 BK810 BK811 BK816 hb ?_; clear BK809 BK810 BK811 BK816; intro BK809 BK810 BK811 BK816
   replace HB := sqs HB hb
   (try clear hb)
   refine hK.out _ _ sqz (fun hHeld => ?_)
   clear hK K
   refine sqnm ?_
   refine sqp HT_ 2 13 ?_
   refine sqp HT_ 3 14 ?_
   refine sqw HT_ HW_ 4 15 hHeld ?_
   refine sqo HT_ 5 16 (fun K hK => ?_)
   refine sqG Try.func80 #[.agg #[.int .i64 a1_0, .int .i64 a1_1, .int .i64 a1_2, .int .i64 a1_3]] ?_
   with_reducible refine (spec_ValOk.calls k a1_0 a1_1 a1_2 a1_3 false _ A22.out).mono ?_
   rintro e w41 ⟨rfl, hb⟩
   refine ⟨_, rfl, ?_⟩
   refine sqM4 BK809 BK810 BK811 BK816 hb ?_; clear BK809 BK810 BK811 BK816; intro BK809 BK810 BK811 BK816
   replace HB := sqs HB hb
   (try clear hb)
   refine hK.out _ _ sqz (fun hHeld => ?_)
   clear hK K
   refine sqnm ?_
   refine sqp HT_ 6 17 ?_
   refine sqp HT_ 7 18 ?_
   refine sqp HT_ 8 19 ?_
   refine sqpu HT_ 9 20 ?_
   refine sqpu HT_ 10 21 ?_
   refine sqpu HT_ 11 22 ?_
   refine sqp HT_ 12 23 ?_
   refine sqp HT_ 13 24 ?_
   refine sqpu HT_ 14 25 ?_
   refine sqpu HT_ 15 26 ?_
   refine sqpu HT_ 16 27 ?_
   refine sqp HT_ 17 28 ?_
   refine done_ (done_of HT_.out (by kernel_rfl)) ?_
   try go_wp2
   go_meet
   case rel => exact ⟨_, (true), (by first | rfl | (simp; done) | (simp [*]; done)), H', ⟨by first | omega | exact Nat.le_refl _⟩, sqk BK809, sqk BK810, sqk BK811, sqk BK816, sqh HB⟩
  subst c23
  have H1 : ((spec_l10None.f).bind fun bt819 => (if (a0_0 == bt819.1 && (a0_1 == bt819.2.1 && (a0_2 == bt819.2.2.1 && (a0_3 == bt819.2.2.2)))) = true then (spec_ValWiden.j0 k l2 true a0_0 a0_1 a0_2 a0_3 a1_0 a1_1 a1_2 a1_3 t812 t813 t814 t815) else ((spec_l10None.f).bind fun bt823 => (spec_ValWiden.j0 k l2 (a1_0 == bt823.1 && (a1_1 == bt823.2.1 && (a1_2 == bt823.2.2.1 && (a1_3 == bt823.2.2.2)))) a0_0 a0_1 a0_2 a0_3 a1_0 a1_1 a1_2 a1_3 t812 t813 t814 t815)))) = some (r1, r2, r3, r4) := by rw [if_pos rfl] at H; exact H
  clear H
  have H := H1
  clear H1
  replace H := sqbi H
  obtain ⟨⟨t819, t820, t821, t822⟩, A24, H⟩ := H
  try dsimp only at H
  replace H := sqj H
  rcases H with ⟨c25, H⟩ | ⟨c25, H⟩
  ·have c25b0 : (a0_0 == t819 && (a0_1 == t820 && (a0_2 == t821 && (a0_3 == t822)))) = true := c25
   (try (have c25b1 : decide (a0_0 = t819 && (a0_1 == t820 && (a0_2 == t821 && (a0_3 == t822)))) = true := by simpa using c25))
   (try (have c25b2 : (a0_0 == t819 && (a0_1 == t820 && (a0_2 == t821 && (a0_3 == t822)))) = true := by simpa using c25))
   clear c25
   (first | rw [c25b0] | (simp only [i64_w, i32_w]; rw [c25b0]) | skip)
   have H' := Aside0.mk H
   clear H
   try go_wp2
   obtain ⟨w26, hw_⟩ : ∃ w_, w_ = ((((w15.setCell ⟨gb816, 0, none⟩ (.int .i64 t812)).setCell ⟨gb816, 1, none⟩ (.int .i64 t813)).setCell ⟨gb816, 2, none⟩ (.int .i64 t814)).setCell ⟨gb816, 3, none⟩ (.int .i64 t815)) := ⟨_, rfl⟩
   replace BK809 := sqTe hw_ BK809
   replace BK810 := sqTe hw_ BK810
   replace BK811 := sqTe hw_ BK811
   replace BK816 : Aside0 (w26.heap[gb816]? = some (.cells #[.int .i64 t812, .int .i64 t813, .int .i64 t814, .int .i64 t815] 30 (0, 0))) := by rw [hw_]; exact ⟨sqP BK816⟩
   replace HB : Aside0 (Below w.heap.size w w26) := by rw [hw_]; exact sqh HB
   rw [← hw_]
   clear hw_
   replace BK809 := sqdr BK809
   replace BK810 := sqdr BK810
   replace BK811 := sqdr BK811
   replace BK816 := sqdr BK816
   replace HB := sqdB HB
   refine sqst 18 (fun w' => w'.cell? ⟨gb809, 0, none⟩ = some (.int .i64 a0_0) ∧ w'.cell? ⟨gb809, 1, none⟩ = some (.int .i64 a0_1) ∧ w'.cell? ⟨gb809, 2, none⟩ = some (.int .i64 a0_2) ∧ w'.cell? ⟨gb809, 3, none⟩ = some (.int .i64 a0_3) ∧ w'.cell? ⟨gb810, 0, none⟩ = some (.int .i64 a1_0) ∧ w'.cell? ⟨gb810, 1, none⟩ = some (.int .i64 a1_1) ∧ w'.cell? ⟨gb810, 2, none⟩ = some (.int .i64 a1_2) ∧ w'.cell? ⟨gb810, 3, none⟩ = some (.int .i64 a1_3)) sqz (fun hHeld => ?_); refine with_tabW spec_ValWiden.tab2 spec_ValWiden.bits2 (fun HT_ HW_ => ?_)
   generalize w26.drew = w27 at BK809 BK810 BK811 BK816 HB hHeld ⊢
   refine sqw HT_ HW_ 0 11 hHeld ?_
   refine sqo HT_ 1 12 (fun K hK => ?_)
   refine sqG Try.func80 #[.agg #[.int .i64 a0_0, .int .i64 a0_1, .int .i64 a0_2, .int .i64 a0_3]] ?_
   with_reducible refine (spec_ValOk.calls k a0_0 a0_1 a0_2 a0_3 true _ A20.out).mono ?_
   rintro e w28 ⟨rfl, hb⟩
   refine ⟨_, rfl, ?_⟩
   refine sqM4 BK809 BK810 BK811 BK816 hb ?_; clear BK809 BK810 BK811 BK816; intro BK809 BK810 BK811 BK816
   replace HB := sqs HB hb
   (try clear hb)
   refine hK.out _ _ sqz (fun hHeld => ?_)
   clear hK K
   refine sqnm ?_
   refine sqp HT_ 2 13 ?_
   refine sqp HT_ 3 14 ?_
   refine sqw HT_ HW_ 4 15 hHeld ?_
   refine sqo HT_ 5 16 (fun K hK => ?_)
   refine sqG Try.func80 #[.agg #[.int .i64 a1_0, .int .i64 a1_1, .int .i64 a1_2, .int .i64 a1_3]] ?_
   with_reducible refine (spec_ValOk.calls k a1_0 a1_1 a1_2 a1_3 true _ A22.out).mono ?_
   rintro e w29 ⟨rfl, hb⟩
   refine ⟨_, rfl, ?_⟩
   refine sqM4 BK809 BK810 BK811 BK816 hb ?_; clear BK809 BK810 BK811 BK816; intro BK809 BK810 BK811 BK816
   replace HB := sqs HB hb
   (try clear hb)
   refine hK.out _ _ sqz (fun hHeld => ?_)
   clear hK K
   refine sqnm ?_
   refine sqp HT_ 6 17 ?_
   refine sqp HT_ 7 18 ?_
   refine sqp HT_ 8 19 ?_
   refine sqw HT_ HW_ 9 20 hHeld ?_
   refine sqo HT_ 10 21 (fun K hK => ?_)
   refine sqG Try.func100 #[] ?_
   with_reducible refine (spec_l10None.calls  t819 t820 t821 t822 _ A24.out).mono ?_
   rintro e w30 ⟨rfl, hb⟩
   refine ⟨_, rfl, ?_⟩
   refine sqM4 BK809 BK810 BK811 BK816 hb ?_; clear BK809 BK810 BK811 BK816; intro BK809 BK810 BK811 BK816
   replace HB := sqs HB hb
   (try clear hb)
   refine hK.out _ _ sqz (fun hHeld => ?_)
   clear hK K
   refine sqnm ?_
   refine sqp HT_ 11 22 ?_
   refine sqp HT_ 12 23 ?_
   refine sqp HT_ 13 24 ?_
   refine sqpu HT_ 14 25 ?_
   refine sqpu HT_ 15 26 ?_
   refine sqpu HT_ 16 27 ?_
   refine sqp HT_ 17 28 ?_
   refine done_ (done_of HT_.out (by kernel_rfl)) ?_
   try go_wp2
   go_meet
   case rel => exact ⟨_, (true), (by first | rfl | (simp; done) | (simp [*]; done)), H', ⟨by first | omega | exact Nat.le_refl _⟩, sqk BK809, sqk BK810, sqk BK811, sqk BK816, sqh HB⟩
  have c25b0 : (a0_0 == t819 && (a0_1 == t820 && (a0_2 == t821 && (a0_3 == t822)))) = false := by simpa using c25
  (try (have c25b1 : decide (a0_0 = t819 && (a0_1 == t820 && (a0_2 == t821 && (a0_3 == t822)))) = false := by simpa using c25))
  (try (have c25b2 : (a0_0 == t819 && (a0_1 == t820 && (a0_2 == t821 && (a0_3 == t822)))) = false := by simpa using c25))
  (try (have c25b3 : ¬ (a0_0 = t819 && (a0_1 == t820 && (a0_2 == t821 && (a0_3 == t822)))) := by simpa using c25))
  clear c25
  (first | rw [c25b0] | (simp only [i64_w, i32_w]; rw [c25b0]) | skip)
  replace H := sqbi H
  obtain ⟨⟨t823, t824, t825, t826⟩, A31, H⟩ := H
  try dsimp only at H
  have H' := Aside0.mk H
  clear H
  try go_wp2
  obtain ⟨w32, hw_⟩ : ∃ w_, w_ = ((((w15.setCell ⟨gb816, 0, none⟩ (.int .i64 t812)).setCell ⟨gb816, 1, none⟩ (.int .i64 t813)).setCell ⟨gb816, 2, none⟩ (.int .i64 t814)).setCell ⟨gb816, 3, none⟩ (.int .i64 t815)) := ⟨_, rfl⟩
  replace BK809 := sqTe hw_ BK809
  replace BK810 := sqTe hw_ BK810
  replace BK811 := sqTe hw_ BK811
  replace BK816 : Aside0 (w32.heap[gb816]? = some (.cells #[.int .i64 t812, .int .i64 t813, .int .i64 t814, .int .i64 t815] 30 (0, 0))) := by rw [hw_]; exact ⟨sqP BK816⟩
  replace HB : Aside0 (Below w.heap.size w w32) := by rw [hw_]; exact sqh HB
  rw [← hw_]
  clear hw_
  replace BK809 := sqdr BK809
  replace BK810 := sqdr BK810
  replace BK811 := sqdr BK811
  replace BK816 := sqdr BK816
  replace HB := sqdB HB
  refine sqst 18 (fun w' => w'.cell? ⟨gb809, 0, none⟩ = some (.int .i64 a0_0) ∧ w'.cell? ⟨gb809, 1, none⟩ = some (.int .i64 a0_1) ∧ w'.cell? ⟨gb809, 2, none⟩ = some (.int .i64 a0_2) ∧ w'.cell? ⟨gb809, 3, none⟩ = some (.int .i64 a0_3) ∧ w'.cell? ⟨gb810, 0, none⟩ = some (.int .i64 a1_0) ∧ w'.cell? ⟨gb810, 1, none⟩ = some (.int .i64 a1_1) ∧ w'.cell? ⟨gb810, 2, none⟩ = some (.int .i64 a1_2) ∧ w'.cell? ⟨gb810, 3, none⟩ = some (.int .i64 a1_3)) sqz (fun hHeld => ?_); refine with_tabW spec_ValWiden.tab2 spec_ValWiden.bits2 (fun HT_ HW_ => ?_)
  generalize w32.drew = w33 at BK809 BK810 BK811 BK816 HB hHeld ⊢
  refine sqw HT_ HW_ 0 11 hHeld ?_
  refine sqo HT_ 1 12 (fun K hK => ?_)
  refine sqG Try.func80 #[.agg #[.int .i64 a0_0, .int .i64 a0_1, .int .i64 a0_2, .int .i64 a0_3]] ?_
  with_reducible refine (spec_ValOk.calls k a0_0 a0_1 a0_2 a0_3 true _ A20.out).mono ?_
  rintro e w34 ⟨rfl, hb⟩
  refine ⟨_, rfl, ?_⟩
  refine sqM4 BK809 BK810 BK811 BK816 hb ?_; clear BK809 BK810 BK811 BK816; intro BK809 BK810 BK811 BK816
  replace HB := sqs HB hb
  (try clear hb)
  refine hK.out _ _ sqz (fun hHeld => ?_)
  clear hK K
  refine sqnm ?_
  refine sqp HT_ 2 13 ?_
  refine sqp HT_ 3 14 ?_
  refine sqw HT_ HW_ 4 15 hHeld ?_
  refine sqo HT_ 5 16 (fun K hK => ?_)
  refine sqG Try.func80 #[.agg #[.int .i64 a1_0, .int .i64 a1_1, .int .i64 a1_2, .int .i64 a1_3]] ?_
  with_reducible refine (spec_ValOk.calls k a1_0 a1_1 a1_2 a1_3 true _ A22.out).mono ?_
  rintro e w35 ⟨rfl, hb⟩
  refine ⟨_, rfl, ?_⟩
  refine sqM4 BK809 BK810 BK811 BK816 hb ?_; clear BK809 BK810 BK811 BK816; intro BK809 BK810 BK811 BK816
  replace HB := sqs HB hb
  (try clear hb)
  refine hK.out _ _ sqz (fun hHeld => ?_)
  clear hK K
  refine sqnm ?_
  refine sqp HT_ 6 17 ?_
  refine sqp HT_ 7 18 ?_
  refine sqp HT_ 8 19 ?_
  refine sqw HT_ HW_ 9 20 hHeld ?_
  refine sqo HT_ 10 21 (fun K hK => ?_)
  refine sqG Try.func100 #[] ?_
  with_reducible refine (spec_l10None.calls  t819 t820 t821 t822 _ A24.out).mono ?_
  rintro e w36 ⟨rfl, hb⟩
  refine ⟨_, rfl, ?_⟩
  refine sqM4 BK809 BK810 BK811 BK816 hb ?_; clear BK809 BK810 BK811 BK816; intro BK809 BK810 BK811 BK816
  replace HB := sqs HB hb
  (try clear hb)
  refine hK.out _ _ sqz (fun hHeld => ?_)
  clear hK K
  refine sqnm ?_
  refine sqp HT_ 11 22 ?_
  refine sqp HT_ 12 23 ?_
  refine sqp HT_ 13 24 ?_
  refine sqw HT_ HW_ 14 25 hHeld ?_
  refine sqo HT_ 15 26 (fun K hK => ?_)
  refine sqG Try.func100 #[] ?_
  with_reducible refine (spec_l10None.calls  t823 t824 t825 t826 _ A31.out).mono ?_
  rintro e w37 ⟨rfl, hb⟩
  refine ⟨_, rfl, ?_⟩
  refine sqM4 BK809 BK810 BK811 BK816 hb ?_; clear BK809 BK810 BK811 BK816; intro BK809 BK810 BK811 BK816
  replace HB := sqs HB hb
  (try clear hb)
  refine hK.out _ _ sqz (fun hHeld => ?_)
  clear hK K
  refine sqnm ?_
  refine sqp HT_ 16 27 ?_
  refine sqp HT_ 17 28 ?_
  refine done_ (done_of HT_.out (by kernel_rfl)) ?_
  try go_wp2
  go_meet
  case rel => exact ⟨_, ((a1_0 == t823 && (a1_1 == t824 && (a1_2 == t825 && (a1_3 == t826))))), (by first | rfl | (simp; done) | (simp [*]; done)), H', ⟨by first | omega | exact Nat.le_refl _⟩, sqk BK809, sqk BK810, sqk BK811, sqk BK816, sqh HB⟩
 case rest =>
  clear HC5
  obtain ⟨kq, x28_4, rfl, HA, HJ4, BK809, BK810, BK811, BK816, HB⟩ := hcut
  cases kq with
  | zero => exact absurd HA.out (by simp [spec_ValWiden.j0])
  | succ kj4 =>
   have H := HA.out
   clear HA
   simp only [spec_ValWiden.j0] at H
   by_cases c45 : x28_4 = true
   ·subst c45
    have H1 : (some (t812, t813, t814, t815)) = some (r1, r2, r3, r4) := by rw [if_pos rfl] at H; exact H
    clear H
    have H := H1
    clear H1
    simp only [Option.some.injEq, Prod.mk.injEq] at H
    obtain ⟨rfl, rfl, rfl, rfl⟩ := H
    obtain ⟨_, _, _, _, _, _⟩ := sqN3 NB816_809 NB816_810 NB816_811
    obtain ⟨_, _, _, _, _, _, _, _⟩ := sqc4 BK816
    obtain ⟨_, _, _, _⟩ := sqN2 NB811_809 NB811_810
    obtain ⟨_, _, _, _, _, _, _, _⟩ := sqc4 BK811
    go_wp2
    refine bodyPost_ret (results_cell_row rfl _ _ gb811 30 #[.int .i64 t812, .int .i64 t813, .int .i64 t814, .int .i64 t815] (0, 0) _ rfl (sqP BK811) Try.underlying30 rfl (by kernel_rfl)) rfl ?_
    exact sqe HB
   replace c45 := Bool.eq_false_iff.mpr c45
   subst c45
   have H1 : ((spec_l10Range.f a0_0 a0_1 a0_2 a0_3).bind fun bt827 => ((spec_l10Range.f a1_0 a1_1 a1_2 a1_3).bind fun bt829 => ((spec_RangeWiden.f kj4 bt827.1 bt827.2 bt829.1 bt829.2 l2).bind fun bt831 => ((spec_l10Rest.f a0_0 a0_1 a0_2 a0_3).bind fun bt833 => ((spec_l10Rest.f a1_0 a1_1 a1_2 a1_3).bind fun bt835 => ((spec_RestJoin.f kj4 bt833.1 bt833.2 bt835.1 bt835.2).bind fun bt837 => ((spec_ValMake.f kj4 bt831.1 bt831.2 bt837.1 bt837.2).bind fun bt839 => (some (bt839.1, bt839.2.1, bt839.2.2.1, bt839.2.2.2))))))))) = some (r1, r2, r3, r4) := by rw [if_neg (show ¬ (false = true) by decide)] at H; exact H
   clear H
   have H := H1
   clear H1
   replace H := sqbi H
   obtain ⟨⟨t827, t828⟩, A53, H⟩ := H
   try dsimp only at H
   replace H := sqbi H
   obtain ⟨⟨t829, t830⟩, A54, H⟩ := H
   try dsimp only at H
   replace H := sqbi H
   obtain ⟨⟨t831, t832⟩, A55, H⟩ := H
   try dsimp only at H
   replace H := sqbi H
   obtain ⟨⟨t833, t834⟩, A56, H⟩ := H
   try dsimp only at H
   replace H := sqbi H
   obtain ⟨⟨t835, t836⟩, A57, H⟩ := H
   try dsimp only at H
   replace H := sqbi H
   obtain ⟨⟨t837, t838⟩, A58, H⟩ := H
   try dsimp only at H
   replace H := sqbi H
   obtain ⟨⟨t839, t840, t841, t842⟩, A59, H⟩ := H
   try dsimp only at H
   simp only [Option.some.injEq, Prod.mk.injEq] at H
   obtain ⟨rfl, rfl, rfl, rfl⟩ := H
   try go_wp2
   replace BK809 := sqdr BK809
   replace BK810 := sqdr BK810
   replace BK811 := sqdr BK811
   replace BK816 := sqdr BK816
   replace HB := sqdB HB
   refine sqst 13 (fun w' => w'.cell? ⟨gb809, 0, none⟩ = some (.int .i64 a0_0) ∧ w'.cell? ⟨gb809, 1, none⟩ = some (.int .i64 a0_1) ∧ w'.cell? ⟨gb809, 2, none⟩ = some (.int .i64 a0_2) ∧ w'.cell? ⟨gb809, 3, none⟩ = some (.int .i64 a0_3) ∧ w'.cell? ⟨gb810, 0, none⟩ = some (.int .i64 a1_0) ∧ w'.cell? ⟨gb810, 1, none⟩ = some (.int .i64 a1_1) ∧ w'.cell? ⟨gb810, 2, none⟩ = some (.int .i64 a1_2) ∧ w'.cell? ⟨gb810, 3, none⟩ = some (.int .i64 a1_3)) sqz (fun hHeld => ?_); refine with_tabW spec_ValWiden.tab4 spec_ValWiden.bits4 (fun HT_ HW_ => ?_)
   generalize wc.drew = w60 at BK809 BK810 BK811 BK816 HB hHeld ⊢
   refine sqp HT_ 4 34 ?_
   refine sqw HT_ HW_ 0 30 hHeld ?_
   refine sqw HT_ HW_ 2 32 hHeld ?_
   refine sqw HT_ HW_ 6 36 hHeld ?_
   refine sqw HT_ HW_ 8 38 hHeld ?_
   refine sqo HT_ 1 31 (fun K hK => ?_)
   refine sqG Try.func180 #[.agg #[.int .i64 a0_0, .int .i64 a0_1, .int .i64 a0_2, .int .i64 a0_3]] ?_
   with_reducible refine (spec_l10Range.calls a0_0 a0_1 a0_2 a0_3 t827 t828 _ A53.out).mono ?_
   rintro e w61 ⟨rfl, hb⟩
   refine ⟨_, rfl, ?_⟩
   refine sqM4 BK809 BK810 BK811 BK816 hb ?_; clear BK809 BK810 BK811 BK816; intro BK809 BK810 BK811 BK816
   replace HB := sqs HB hb
   (try clear hb)
   refine hK.out _ _ sqz (fun hHeld => ?_)
   clear hK K
   refine sqnm ?_
   refine sqo HT_ 3 33 (fun K hK => ?_)
   refine sqG Try.func180 #[.agg #[.int .i64 a1_0, .int .i64 a1_1, .int .i64 a1_2, .int .i64 a1_3]] ?_
   with_reducible refine (spec_l10Range.calls a1_0 a1_1 a1_2 a1_3 t829 t830 _ A54.out).mono ?_
   rintro e w62 ⟨rfl, hb⟩
   refine ⟨_, rfl, ?_⟩
   refine sqM4 BK809 BK810 BK811 BK816 hb ?_; clear BK809 BK810 BK811 BK816; intro BK809 BK810 BK811 BK816
   replace HB := sqs HB hb
   (try clear hb)
   refine hK.out _ _ sqz (fun hHeld => ?_)
   clear hK K
   refine sqnm ?_
   refine sqo HT_ 5 35 (fun K hK => ?_)
   refine sqG Try.func191 #[.agg #[.int .i64 t827, .int .i64 t828], .agg #[.int .i64 t829, .int .i64 t830], .slice A2 l2.length c2] ?_
   with_reducible refine (spec_RangeWiden.calls kj4 t827 t828 t829 t830 _ _ l2 t831 t832 _ ?side1 ?side2 A55.out).mono ?_
   (case side1 => exact sqC (Kd.C_below HR2.out HB.out))
   (case side2 => exact HC2.out)
   rintro e w63 ⟨rfl, hb⟩
   refine ⟨_, rfl, ?_⟩
   refine sqM4 BK809 BK810 BK811 BK816 hb ?_; clear BK809 BK810 BK811 BK816; intro BK809 BK810 BK811 BK816
   replace HB := sqs HB hb
   (try clear hb)
   refine hK.out _ _ sqz (fun hHeld => ?_)
   clear hK K
   refine sqnm ?_
   refine sqo HT_ 7 37 (fun K hK => ?_)
   refine sqG Try.func181 #[.agg #[.int .i64 a0_0, .int .i64 a0_1, .int .i64 a0_2, .int .i64 a0_3]] ?_
   with_reducible refine (spec_l10Rest.calls a0_0 a0_1 a0_2 a0_3 t833 t834 _ A56.out).mono ?_
   rintro e w64 ⟨rfl, hb⟩
   refine ⟨_, rfl, ?_⟩
   refine sqM4 BK809 BK810 BK811 BK816 hb ?_; clear BK809 BK810 BK811 BK816; intro BK809 BK810 BK811 BK816
   replace HB := sqs HB hb
   (try clear hb)
   refine hK.out _ _ sqz (fun hHeld => ?_)
   clear hK K
   refine sqnm ?_
   refine sqo HT_ 9 39 (fun K hK => ?_)
   refine sqG Try.func181 #[.agg #[.int .i64 a1_0, .int .i64 a1_1, .int .i64 a1_2, .int .i64 a1_3]] ?_
   with_reducible refine (spec_l10Rest.calls a1_0 a1_1 a1_2 a1_3 t835 t836 _ A57.out).mono ?_
   rintro e w65 ⟨rfl, hb⟩
   refine ⟨_, rfl, ?_⟩
   refine sqM4 BK809 BK810 BK811 BK816 hb ?_; clear BK809 BK810 BK811 BK816; intro BK809 BK810 BK811 BK816
   replace HB := sqs HB hb
   (try clear hb)
   refine hK.out _ _ sqz (fun hHeld => ?_)
   clear hK K
   refine sqnm ?_
   refine sqo HT_ 10 40 (fun K hK => ?_)
   refine sqG Try.func189 #[.agg #[.int .i64 t833, .int .i64 t834], .agg #[.int .i64 t835, .int .i64 t836]] ?_
   with_reducible refine (spec_RestJoin.calls kj4 t833 t834 t835 t836 t837 t838 _ A58.out).mono ?_
   rintro e w66 ⟨rfl, hb⟩
   refine ⟨_, rfl, ?_⟩
   refine sqM4 BK809 BK810 BK811 BK816 hb ?_; clear BK809 BK810 BK811 BK816; intro BK809 BK810 BK811 BK816
   replace HB := sqs HB hb
   (try clear hb)
   refine hK.out _ _ sqz (fun hHeld => ?_)
   clear hK K
   refine sqnm ?_
   refine sqo HT_ 11 41 (fun K hK => ?_)
   refine sqG Try.func17 #[.agg #[.int .i64 t831, .int .i64 t832], .agg #[.int .i64 t837, .int .i64 t838]] ?_
   with_reducible refine (spec_ValMake.calls kj4 t831 t832 t837 t838 t839 t840 t841 t842 _ A59.out).mono ?_
   rintro e w67 ⟨rfl, hb⟩
   refine ⟨_, rfl, ?_⟩
   refine sqM4 BK809 BK810 BK811 BK816 hb ?_; clear BK809 BK810 BK811 BK816; intro BK809 BK810 BK811 BK816
   replace HB := sqs HB hb
   (try clear hb)
   refine hK.out _ _ sqz (fun hHeld => ?_)
   clear hK K
   refine sqnm ?_
   refine one_ (i := 12) (N := none) #[true, true, true, true, true, true, true, true, true, true, true, true, true] rfl rfl (one_of HT_.out (by kernel_rfl)) (by decide) (fun K hK => ?_)
   have hs68 : w67.cell? ⟨gb811, 0, none⟩ = some (.int .i64 0) := (blk_cell BK811.out 0).trans rfl
   have hfs68 := blk_frozen BK811.out 0
   have hns68_0 := NB809_811.out
   have hns68_1 := NB810_811.out
   have hns68_3 := NB816_811.out
   have hms68_0 := NB811_809.out
   have hms68_1 := NB811_810.out
   have hms68_3 := NB811_816.out
   have hs69 : w67.cell? ⟨gb811, 1, none⟩ = some (.int .i64 0) := (blk_cell BK811.out 1).trans rfl
   have hfs69 := blk_frozen BK811.out 1
   have hns69_0 := NB809_811.out
   have hns69_1 := NB810_811.out
   have hns69_3 := NB816_811.out
   have hms69_0 := NB811_809.out
   have hms69_1 := NB811_810.out
   have hms69_3 := NB811_816.out
   have hs70 : w67.cell? ⟨gb811, 2, none⟩ = some (.int .i64 0) := (blk_cell BK811.out 2).trans rfl
   have hfs70 := blk_frozen BK811.out 2
   have hns70_0 := NB809_811.out
   have hns70_1 := NB810_811.out
   have hns70_3 := NB816_811.out
   have hms70_0 := NB811_809.out
   have hms70_1 := NB811_810.out
   have hms70_3 := NB811_816.out
   have hs71 : w67.cell? ⟨gb811, 3, none⟩ = some (.int .i64 0) := (blk_cell BK811.out 3).trans rfl
   have hfs71 := blk_frozen BK811.out 3
   have hns71_0 := NB809_811.out
   have hns71_1 := NB810_811.out
   have hns71_3 := NB816_811.out
   have hms71_0 := NB811_809.out
   have hms71_1 := NB811_810.out
   have hms71_3 := NB811_816.out
   refine skip_ (w1 := ?_) (by rfl) rfl ?_ ?_
   rotate_left
   ·go_simp
    rfl
   refine hK.out _ _ ⟨(sqfa NB809_811 ((sqfa NB809_811 ((sqfa NB809_811 ((sqfa NB809_811 (hHeld.1)))))))), (sqfa NB809_811 ((sqfa NB809_811 ((sqfa NB809_811 ((sqfa NB809_811 (hHeld.2.1)))))))), (sqfa NB809_811 ((sqfa NB809_811 ((sqfa NB809_811 ((sqfa NB809_811 (hHeld.2.2.1)))))))), (sqfa NB809_811 ((sqfa NB809_811 ((sqfa NB809_811 ((sqfa NB809_811 (hHeld.2.2.2.1)))))))), (sqfa NB810_811 ((sqfa NB810_811 ((sqfa NB810_811 ((sqfa NB810_811 (hHeld.2.2.2.2.1)))))))), (sqfa NB810_811 ((sqfa NB810_811 ((sqfa NB810_811 ((sqfa NB810_811 (hHeld.2.2.2.2.2.1)))))))), (sqfa NB810_811 ((sqfa NB810_811 ((sqfa NB810_811 ((sqfa NB810_811 (hHeld.2.2.2.2.2.2.1)))))))), (sqfa NB810_811 ((sqfa NB810_811 ((sqfa NB810_811 ((sqfa NB810_811 (hHeld.2.2.2.2.2.2.2))))))))⟩ (fun hHeld => ?_)
   clear hK K
   refine done_ (done_of HT_.out (by kernel_rfl)) ?_
   try go_wp2
   refine bodyPost_ret (results_cell_row rfl _ _ gb811 30 #[.int .i64 t839, .int .i64 t840, .int .i64 t841, .int .i64 t842] (0, 0) _ rfl (sqP BK811) Try.underlying30 rfl (by kernel_rfl)) rfl ?_
   exact sqe HB

end Go.Proofs.Ytkekcenlleebeaa.PFnValLattice
