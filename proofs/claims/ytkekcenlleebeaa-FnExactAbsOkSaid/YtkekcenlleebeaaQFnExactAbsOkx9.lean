/- Functions of the program as plain Lean functions, and that calls of them come to what these tell. Conditions: those in each law. -/
import Derived.Test.YtkekcenlleebeaaSq
import Derived.Test.YtkekcenlleebeaaDFnExactAbsOk
import Derived.Test.YtkekcenlleebeaaQFnExactAbsOkx0
import Derived.Test.YtkekcenlleebeaaQFnExactAbsOkx2
import Derived.Test.YtkekcenlleebeaaQFnExactAbsOkx4
import Derived.Test.YtkekcenlleebeaaQFnExactAbsOkx8
namespace Go.Proofs.Ytkekcenlleebeaa.PFnExactAbsOk
open Go.RowKit Go.Proofs.Ytkekcenlleebeaa.Sq Go.Proofs.YtkekcenlleebeaaW.PrintWords Go.Proofs.YtkekcenlleebeaaW.PrintLast Go.Proofs.YtkekcenlleebeaaW.PrintMore
attribute [local go_sem] max2_int min2_int max_two min_two max_three min_three max_four min_four   -- for this text's walks alone
set_option linter.unusedVariables false
set_option linter.unusedSimpArgs false

attribute [local go_sem high] eqA30
/-! ### spec_l12RefOk: function 139 -/
theorem spec_l12RefOk.mono_l : ∀ k, (∀ y0 y1 y2 y3 y4 y5 y6, LeO (spec_l12RefOk.j0 k y0 y1 y2 y3 y4 y5 y6) (spec_l12RefOk.j0 (k + 1) y0 y1 y2 y3 y4 y5 y6)) ∧ (∀ y0 y1 y2 y3 y4 y5 y6, LeO (spec_l12RefOk.l0 k y0 y1 y2 y3 y4 y5 y6) (spec_l12RefOk.l0 (k + 1) y0 y1 y2 y3 y4 y5 y6))
 | 0 => ⟨fun _ _ _ _ _ _ _ r h => by simp [spec_l12RefOk.j0] at h, fun _ _ _ _ _ _ _ r h => by simp [spec_l12RefOk.l0] at h⟩
 | k + 1 => by
  obtain ⟨ih0, ih1⟩ := spec_l12RefOk.mono_l k
  refine ⟨?_, ?_⟩
  ·intro y0 y1 y2 y3 y4 y5 y6
   unfold spec_l12RefOk.j0
   repeat' first
   | (with_reducible exact ih0 _ _ _ _ _ _ _)
   | (with_reducible exact ih1 _ _ _ _ _ _ _)
   | (with_reducible exact spec_ValOk.mono _ _ _ _ _)
   | (with_reducible exact LeO.refl _)
   | (with_reducible exact LeO.none _)
   | (with_reducible refine LeO.ite ?_ ?_)
   | (with_reducible refine LeO.bind ?_ (fun _ => ?_))
   | exact ih0 _ _ _ _ _ _ _
   | exact ih1 _ _ _ _ _ _ _
   | exact spec_ValOk.mono _ _ _ _ _
   | exact LeO.none _
   | refine LeO.ite ?_ ?_
   | refine LeO.bind ?_ (fun _ => ?_)
  ·intro y0 y1 y2 y3 y4 y5 y6
   unfold spec_l12RefOk.l0
   repeat' first
   | (with_reducible exact ih0 _ _ _ _ _ _ _)
   | (with_reducible exact ih1 _ _ _ _ _ _ _)
   | (with_reducible exact spec_ValOk.mono _ _ _ _ _)
   | (with_reducible exact LeO.refl _)
   | (with_reducible exact LeO.none _)
   | (with_reducible refine LeO.ite ?_ ?_)
   | (with_reducible refine LeO.bind ?_ (fun _ => ?_))
   | exact ih0 _ _ _ _ _ _ _
   | exact ih1 _ _ _ _ _ _ _
   | exact spec_ValOk.mono _ _ _ _ _
   | exact LeO.none _
   | refine LeO.ite ?_ ?_
   | refine LeO.bind ?_ (fun _ => ?_)
theorem spec_l12RefOk.mono : ∀ a0 a1 a2 a3 a4 a5 k, LeO (spec_l12RefOk.f k a0 a1 a2 a3 a4 a5) (spec_l12RefOk.f (k + 1) a0 a1 a2 a3 a4 a5) := by
 intro a0 a1 a2 a3 a4 a5 k
 obtain ⟨ih0, ih1⟩ := spec_l12RefOk.mono_l k
 unfold spec_l12RefOk.f
 repeat' first
   | (with_reducible exact ih0 _ _ _ _ _ _ _)
   | (with_reducible exact ih1 _ _ _ _ _ _ _)
   | (with_reducible exact spec_ValOk.mono _ _ _ _ _)
   | (with_reducible exact LeO.refl _)
   | (with_reducible exact LeO.none _)
   | (with_reducible refine LeO.ite ?_ ?_)
   | (with_reducible refine LeO.bind ?_ (fun _ => ?_))
   | exact ih0 _ _ _ _ _ _ _
   | exact ih1 _ _ _ _ _ _ _
   | exact spec_ValOk.mono _ _ _ _ _
   | exact LeO.none _
   | refine LeO.ite ?_ ?_
   | refine LeO.bind ?_ (fun _ => ?_)
def spec_l12RefOk.T1 : Bool × List (List Nat × List Nat) := (true, [([], []), ([0], [0]), ([1], [1]), ([2], [2]), ([3, 2], [3]), ([4], [4]), ([5, 4], [4, 5]), ([6, 4], [4, 6]), ([7, 4], [4, 7]), ([4], [4]), ([9, 4], [4, 9]), ([4, 4], [4]), ([10, 11, 4], [4, 10, 11]), ([8, 12, 4], [4, 8, 12]), ([4, 13], [4, 13]), ([14, 11], [14]), ([15], [15]), ([16, 15], [15, 16]), ([17, 15], [15, 17]), ([18, 15, 15], [15, 18]), ([19], [19]), ([20, 19], [19, 20]), ([21, 19], [19, 21]), ([22, 19], [19, 22]), ([19, 23, 15], [15, 19, 23]), ([15, 24], [15, 24])])
def spec_l12RefOk.B1 : List Nat := [0, 1, 3, 7, 15, 31, 63, 127, 255, 31, 543, 31, 3615, 8191, 16383, 32767, 65535, 131071, 262143, 524287, 1048575, 2097151, 4194303, 8388607, 16777215, 33554431]
theorem spec_l12RefOk.tab1 : rtab .any (opsOf Try.f139 1) = spec_l12RefOk.T1 := by kernel_rfl
theorem spec_l12RefOk.bits1 : waitsOk spec_l12RefOk.T1.2 spec_l12RefOk.B1 = true := by kernel_rfl
def spec_l12RefOk.T6 : Bool × List (List Nat × List Nat) := (true, [([], []), ([0], [0]), ([], []), ([1, 2], [1, 2]), ([3], [3]), ([4], [4]), ([5], [5]), ([6], [6]), ([7, 6], [6, 7]), ([8, 6, 6], [6, 8]), ([9], [9]), ([10, 9], [9, 10]), ([9], [9]), ([12, 9], [9, 12]), ([11, 13, 9], [9, 11, 13]), ([14, 9], [9, 14]), ([9], [9]), ([16, 9], [9, 16]), ([9], [9]), ([17, 18, 9], [9, 17, 18]), ([19, 9], [9, 19]), ([15, 20, 9], [9, 15, 20]), ([9, 21, 6], [6, 9, 21]), ([6, 22], [6, 22])])
def spec_l12RefOk.B6 : List Nat := [0, 1, 0, 7, 15, 31, 63, 127, 255, 511, 1023, 2047, 1023, 5119, 16383, 32767, 1023, 66559, 1023, 459775, 984063, 2097151, 4194303, 8388607]
theorem spec_l12RefOk.tab6 : rtab .any (opsOf Try.f139 6) = spec_l12RefOk.T6 := by kernel_rfl
theorem spec_l12RefOk.bits6 : waitsOk spec_l12RefOk.T6.2 spec_l12RefOk.B6 = true := by kernel_rfl
set_option maxHeartbeats 8000000 in
set_option maxRecDepth 100000 in
theorem spec_l12RefOk.calls (k : Nat) (a0_0 : Bool) (A0_1 : Option Addr) (c0_1 : Nat) (l0_1 : List Int) (a0_2 : Int) (a0_3 : Int) (a0_4 : Int) (a0_5 : Int) (r : Bool) (w : World) (hr0_1 : Kd.C (Kd.int .i64) w A0_1 l0_1.length l0_1) (hc0_1 : l0_1.length ≤ c0_1) (h : spec_l12RefOk.f k a0_0 l0_1 a0_2 a0_3 a0_4 a0_5 = some r) :
  Calls Try.prog 139 #[.agg #[.bool a0_0, .slice A0_1 l0_1.length c0_1, .int .i64 a0_2, .int .i64 a0_3, .int .i64 a0_4, .int .i64 a0_5]] w fun e w' => e = .returned (.bool r) ∧ Below w.heap.size w w' := by
 have hu132 := Try.underlying132
 have hu30 := Try.underlying30
 have HR0_1 := Aside0.mk hr0_1
 have HC0_1 := Aside0.mk hc0_1
 clear hr0_1 hc0_1
 have HB := Aside0.mk (Below.refl w.heap.size w)
 have H : ((spec_ValOk.f k a0_2 a0_3 a0_4 a0_5).bind fun t188 => (if t188 = true then ((spec_l10None.f).bind fun bt189 => (if (((l0_1.length : Int) == 0) != (a0_2 == bt189.1 && (a0_3 == bt189.2.1 && (a0_4 == bt189.2.2.1 && (a0_5 == bt189.2.2.2))))) = true then (spec_l12RefOk.j0 k true a0_0 l0_1 a0_2 a0_3 a0_4 a0_5) else (if a0_0 = true then (spec_l12RefOk.j0 k false a0_0 l0_1 a0_2 a0_3 a0_4 a0_5) else (spec_l12RefOk.j0 k ((l0_1.length : Int) == 0) a0_0 l0_1 a0_2 a0_3 a0_4 a0_5)))) else (spec_l12RefOk.j0 k true a0_0 l0_1 a0_2 a0_3 a0_4 a0_5))) = some r := h
 clear h
 have HC2 := Aside0.mk H
 clear H
 go_enter Try.func139, Try.ntmps139
 go_upto_region 1 with (first | ((with_reducible refine gate_dst (N := 1) rfl ?_); (try (refine gate_guard (by rfl) ?_; dsimp only)); refine sqx 1 #[.bool a0_0, .slice A0_1 l0_1.length c0_1, .int .i64 a0_2, .int .i64 a0_3, .int .i64 a0_4, .int .i64 a0_5] 132 ?_; intro gb187 hg w3 hbox hb; have BK187 := Aside0.mk (hbox); have GW187 := sqg HB hg; have GE187 := sqg HB hg; replace HB := sqs HB hb; clear hb hbox hg))
 (try simp only [Act.put, List.setIfInBounds_toArray, List.set_cons_zero, List.set_cons_succ])
 go_cut [29] (fun v29 wc => ∃ (kq : Nat) (x29_1 : Bool), v29 = .bool x29_1 ∧ Aside0 (spec_l12RefOk.j0 kq x29_1 a0_0 l0_1 a0_2 a0_3 a0_4 a0_5 = some r) ∧ Aside0 (kq ≤ k) ∧ Aside0 (wc.heap[gb187]? = some (.cells #[.bool a0_0, (.slice A0_1 l0_1.length c0_1), .int .i64 a0_2, .int .i64 a0_3, .int .i64 a0_4, .int .i64 a0_5] 132 (0, 0))) ∧ Aside0 (Below w.heap.size w wc))
 case first =>
  have H := HC2.out
  clear HC2
  replace H := Option.bind_eq_some_iff.mp H
  obtain ⟨t188, A40, H⟩ := H
  replace H : (if t188 = true then ((spec_l10None.f).bind fun bt189 => (if (((l0_1.length : Int) == 0) != (a0_2 == bt189.1 && (a0_3 == bt189.2.1 && (a0_4 == bt189.2.2.1 && (a0_5 == bt189.2.2.2))))) = true then (spec_l12RefOk.j0 k true a0_0 l0_1 a0_2 a0_3 a0_4 a0_5) else (if a0_0 = true then (spec_l12RefOk.j0 k false a0_0 l0_1 a0_2 a0_3 a0_4 a0_5) else (spec_l12RefOk.j0 k ((l0_1.length : Int) == 0) a0_0 l0_1 a0_2 a0_3 a0_4 a0_5)))) else (spec_l12RefOk.j0 k true a0_0 l0_1 a0_2 a0_3 a0_4 a0_5)) = some r := H
  have A4 := Aside0.mk A40
  clear A40
  by_cases c5 : t188 = true
  ·subst c5
   have H1 : ((spec_l10None.f).bind fun bt189 => (if (((l0_1.length : Int) == 0) != (a0_2 == bt189.1 && (a0_3 == bt189.2.1 && (a0_4 == bt189.2.2.1 && (a0_5 == bt189.2.2.2))))) = true then (spec_l12RefOk.j0 k true a0_0 l0_1 a0_2 a0_3 a0_4 a0_5) else (if a0_0 = true then (spec_l12RefOk.j0 k false a0_0 l0_1 a0_2 a0_3 a0_4 a0_5) else (spec_l12RefOk.j0 k ((l0_1.length : Int) == 0) a0_0 l0_1 a0_2 a0_3 a0_4 a0_5)))) = some r := by rw [if_pos rfl] at H; exact H
   clear H
   have H := H1
   clear H1
   replace H := Option.bind_eq_some_iff.mp H
   obtain ⟨⟨t189, t190, t191, t192⟩, A60, H⟩ := H
   replace H : (if (((l0_1.length : Int) == 0) != (a0_2 == t189 && (a0_3 == t190 && (a0_4 == t191 && (a0_5 == t192))))) = true then (spec_l12RefOk.j0 k true a0_0 l0_1 a0_2 a0_3 a0_4 a0_5) else (if a0_0 = true then (spec_l12RefOk.j0 k false a0_0 l0_1 a0_2 a0_3 a0_4 a0_5) else (spec_l12RefOk.j0 k ((l0_1.length : Int) == 0) a0_0 l0_1 a0_2 a0_3 a0_4 a0_5))) = some r := H
   have A6 := Aside0.mk A60
   clear A60
   by_cases c7 : (((l0_1.length : Int) == 0) != (a0_2 == t189 && (a0_3 == t190 && (a0_4 == t191 && (a0_5 == t192))))) = true
   ·rw [if_pos c7] at H
    have c7b0 : (((l0_1.length : Int) == 0) != (a0_2 == t189 && (a0_3 == t190 && (a0_4 == t191 && (a0_5 == t192))))) = true := c7
    (try (have c7b1 : decide (((l0_1.length : Int) == 0) = (a0_2 == t189 && (a0_3 == t190 && (a0_4 == t191 && (a0_5 == t192))))) = false := by simpa using c7))
    (try (have c7b2 : (((l0_1.length : Int) == 0) == (a0_2 == t189 && (a0_3 == t190 && (a0_4 == t191 && (a0_5 == t192))))) = false := by simpa using c7))
    (try (have c7b3 : ¬ (((l0_1.length : Int) == 0) = (a0_2 == t189 && (a0_3 == t190 && (a0_4 == t191 && (a0_5 == t192))))) := by simpa using c7))
    clear c7
    (first | rw [c7b0] | (simp only [i64_w, i32_w]; rw [c7b0]) | skip)
    have H' := Aside0.mk H
    clear H
    try go_wp2
    replace BK187 := Aside0.mk (blk_drew BK187.out)
    replace HB := Aside0.mk (below_drew1 HB.out)
    refine start_ (n := 26) (S := fun w' => w'.cell? ⟨gb187, 0, none⟩ = some (.bool a0_0) ∧ w'.cell? ⟨gb187, 1, none⟩ = some (.slice A0_1 l0_1.length c0_1) ∧ w'.cell? ⟨gb187, 2, none⟩ = some (.int .i64 a0_2) ∧ w'.cell? ⟨gb187, 3, none⟩ = some (.int .i64 a0_3) ∧ w'.cell? ⟨gb187, 4, none⟩ = some (.int .i64 a0_4) ∧ w'.cell? ⟨gb187, 5, none⟩ = some (.int .i64 a0_5)) (ds := []) #[false, false, false, false, false, false, false, false, false, false, false, false, false, false, false, false, false, false, false, false, false, false, false, false, false, false] (by kernel_rfl) rfl rfl ⟨(blk_cell BK187.out 0).trans rfl, (blk_cell BK187.out 1).trans rfl, (blk_cell BK187.out 2).trans rfl, (blk_cell BK187.out 3).trans rfl, (blk_cell BK187.out 4).trans rfl, (blk_cell BK187.out 5).trans rfl⟩ (fun hHeld => ?_); refine with_tabW spec_l12RefOk.tab1 spec_l12RefOk.bits1 (fun HT_ HW_ => ?_)
    generalize w3.drew = w8 at BK187 HB hHeld ⊢
    refine sqp HT_ 0 4 ?_
    refine sqw HT_ HW_ 1 5 hHeld ?_
    refine sqo HT_ 2 6 (fun K hK => ?_)
    refine sqG Try.func80 #[.agg #[.int .i64 a0_2, .int .i64 a0_3, .int .i64 a0_4, .int .i64 a0_5]] ?_
    with_reducible refine (spec_ValOk.calls k a0_2 a0_3 a0_4 a0_5 true _ A4.out).mono ?_
    rintro e w9 ⟨rfl, hb⟩
    refine ⟨_, rfl, ?_⟩
    replace BK187 := sqb BK187 hb
    replace HB := sqs HB hb
    (try clear hb)
    refine hK.out _ _ sqz (fun hHeld => ?_)
    clear hK K
    refine sqnm ?_
    refine sqp HT_ 3 7 ?_
    refine sqp HT_ 4 8 ?_
    refine sqp HT_ 5 9 ?_
    refine sqp HT_ 9 13 ?_
    refine sqw HT_ HW_ 6 10 hHeld ?_
    refine sqp HT_ 7 11 ?_
    refine sqp HT_ 8 12 ?_
    refine sqw HT_ HW_ 10 14 hHeld ?_
    refine sqo HT_ 11 15 (fun K hK => ?_)
    refine sqG Try.func100 #[] ?_
    with_reducible refine (spec_l10None.calls  t189 t190 t191 t192 _ A6.out).mono ?_
    rintro e w10 ⟨rfl, hb⟩
    refine ⟨_, rfl, ?_⟩
    replace BK187 := sqb BK187 hb
    replace HB := sqs HB hb
    (try clear hb)
    refine hK.out _ _ sqz (fun hHeld => ?_)
    clear hK K
    refine sqnm ?_
    refine sqp HT_ 12 16 ?_
    refine sqp HT_ 13 17 ?_
    refine sqp HT_ 14 18 ?_
    refine sqp HT_ 15 19 ?_
    refine sqpu HT_ 16 20 ?_
    refine sqpu HT_ 17 21 ?_
    refine sqpu HT_ 18 22 ?_
    refine sqpu HT_ 19 23 ?_
    refine sqpu HT_ 20 24 ?_
    refine sqpu HT_ 21 25 ?_
    refine sqpu HT_ 22 26 ?_
    refine sqpu HT_ 23 27 ?_
    refine sqpu HT_ 24 28 ?_
    refine sqp HT_ 25 29 ?_
    refine done_ (done_of HT_.out (by kernel_rfl)) ?_
    try go_wp2
    go_meet
    case rel => exact ⟨_, (true), (by first | rfl | (simp; done) | (simp [*]; done)), H', ⟨by first | omega | exact Nat.le_refl _⟩, sqk BK187, sqh HB⟩
   ·rw [if_neg c7] at H
    have c7b0 : (((l0_1.length : Int) == 0) != (a0_2 == t189 && (a0_3 == t190 && (a0_4 == t191 && (a0_5 == t192))))) = false := by simpa using c7
    (try (have c7b1 : decide (((l0_1.length : Int) == 0) = (a0_2 == t189 && (a0_3 == t190 && (a0_4 == t191 && (a0_5 == t192))))) = true := by simpa using c7))
    (try (have c7b2 : (((l0_1.length : Int) == 0) == (a0_2 == t189 && (a0_3 == t190 && (a0_4 == t191 && (a0_5 == t192))))) = true := by simpa using c7))
    clear c7
    (first | rw [c7b0] | (simp only [i64_w, i32_w]; rw [c7b0]) | skip)
    by_cases c11 : a0_0 = true
    ·subst c11
     have H1 : (spec_l12RefOk.j0 k false true l0_1 a0_2 a0_3 a0_4 a0_5) = some r := by rw [if_pos rfl] at H; exact H
     clear H
     have H := H1
     clear H1
     have H' := Aside0.mk H
     clear H
     try go_wp2
     replace BK187 := Aside0.mk (blk_drew BK187.out)
     replace HB := Aside0.mk (below_drew1 HB.out)
     refine start_ (n := 26) (S := fun w' => w'.cell? ⟨gb187, 0, none⟩ = some (.bool true) ∧ w'.cell? ⟨gb187, 1, none⟩ = some (.slice A0_1 l0_1.length c0_1) ∧ w'.cell? ⟨gb187, 2, none⟩ = some (.int .i64 a0_2) ∧ w'.cell? ⟨gb187, 3, none⟩ = some (.int .i64 a0_3) ∧ w'.cell? ⟨gb187, 4, none⟩ = some (.int .i64 a0_4) ∧ w'.cell? ⟨gb187, 5, none⟩ = some (.int .i64 a0_5)) (ds := []) #[false, false, false, false, false, false, false, false, false, false, false, false, false, false, false, false, false, false, false, false, false, false, false, false, false, false] (by kernel_rfl) rfl rfl ⟨(blk_cell BK187.out 0).trans rfl, (blk_cell BK187.out 1).trans rfl, (blk_cell BK187.out 2).trans rfl, (blk_cell BK187.out 3).trans rfl, (blk_cell BK187.out 4).trans rfl, (blk_cell BK187.out 5).trans rfl⟩ (fun hHeld => ?_); refine with_tabW spec_l12RefOk.tab1 spec_l12RefOk.bits1 (fun HT_ HW_ => ?_)
     generalize w3.drew = w12 at BK187 HB hHeld ⊢
     refine sqp HT_ 0 4 ?_
     refine sqw HT_ HW_ 1 5 hHeld ?_
     refine sqo HT_ 2 6 (fun K hK => ?_)
     refine sqG Try.func80 #[.agg #[.int .i64 a0_2, .int .i64 a0_3, .int .i64 a0_4, .int .i64 a0_5]] ?_
     with_reducible refine (spec_ValOk.calls k a0_2 a0_3 a0_4 a0_5 true _ A4.out).mono ?_
     rintro e w13 ⟨rfl, hb⟩
     refine ⟨_, rfl, ?_⟩
     replace BK187 := sqb BK187 hb
     replace HB := sqs HB hb
     (try clear hb)
     refine hK.out _ _ sqz (fun hHeld => ?_)
     clear hK K
     refine sqnm ?_
     refine sqp HT_ 3 7 ?_
     refine sqp HT_ 4 8 ?_
     refine sqp HT_ 5 9 ?_
     refine sqp HT_ 9 13 ?_
     refine sqw HT_ HW_ 6 10 hHeld ?_
     refine sqp HT_ 7 11 ?_
     refine sqp HT_ 8 12 ?_
     refine sqw HT_ HW_ 10 14 hHeld ?_
     refine sqo HT_ 11 15 (fun K hK => ?_)
     refine sqG Try.func100 #[] ?_
     with_reducible refine (spec_l10None.calls  t189 t190 t191 t192 _ A6.out).mono ?_
     rintro e w14 ⟨rfl, hb⟩
     refine ⟨_, rfl, ?_⟩
     replace BK187 := sqb BK187 hb
     replace HB := sqs HB hb
     (try clear hb)
     refine hK.out _ _ sqz (fun hHeld => ?_)
     clear hK K
     refine sqnm ?_
     refine sqp HT_ 12 16 ?_
     refine sqp HT_ 13 17 ?_
     refine sqp HT_ 14 18 ?_
     refine sqp HT_ 15 19 ?_
     refine sqp HT_ 16 20 ?_
     refine sqw HT_ HW_ 17 21 hHeld ?_
     refine sqp HT_ 18 22 ?_
     refine sqp HT_ 19 23 ?_
     refine sqpu HT_ 20 24 ?_
     refine sqpu HT_ 21 25 ?_
     refine sqpu HT_ 22 26 ?_
     refine sqpu HT_ 23 27 ?_
     refine sqp HT_ 24 28 ?_
     refine sqp HT_ 25 29 ?_
     refine done_ (done_of HT_.out (by kernel_rfl)) ?_
     try go_wp2
     go_meet
     case rel => exact ⟨_, (false), (by first | rfl | (simp; done) | (simp [*]; done)), H', ⟨by first | omega | exact Nat.le_refl _⟩, sqk BK187, sqh HB⟩
    ·replace c11 := Bool.eq_false_iff.mpr c11
     subst c11
     have H1 : (spec_l12RefOk.j0 k ((l0_1.length : Int) == 0) false l0_1 a0_2 a0_3 a0_4 a0_5) = some r := by rw [if_neg (show ¬ (false = true) by decide)] at H; exact H
     clear H
     have H := H1
     clear H1
     have H' := Aside0.mk H
     clear H
     try go_wp2
     replace BK187 := Aside0.mk (blk_drew BK187.out)
     replace HB := Aside0.mk (below_drew1 HB.out)
     refine start_ (n := 26) (S := fun w' => w'.cell? ⟨gb187, 0, none⟩ = some (.bool false) ∧ w'.cell? ⟨gb187, 1, none⟩ = some (.slice A0_1 l0_1.length c0_1) ∧ w'.cell? ⟨gb187, 2, none⟩ = some (.int .i64 a0_2) ∧ w'.cell? ⟨gb187, 3, none⟩ = some (.int .i64 a0_3) ∧ w'.cell? ⟨gb187, 4, none⟩ = some (.int .i64 a0_4) ∧ w'.cell? ⟨gb187, 5, none⟩ = some (.int .i64 a0_5)) (ds := []) #[false, false, false, false, false, false, false, false, false, false, false, false, false, false, false, false, false, false, false, false, false, false, false, false, false, false] (by kernel_rfl) rfl rfl ⟨(blk_cell BK187.out 0).trans rfl, (blk_cell BK187.out 1).trans rfl, (blk_cell BK187.out 2).trans rfl, (blk_cell BK187.out 3).trans rfl, (blk_cell BK187.out 4).trans rfl, (blk_cell BK187.out 5).trans rfl⟩ (fun hHeld => ?_); refine with_tabW spec_l12RefOk.tab1 spec_l12RefOk.bits1 (fun HT_ HW_ => ?_)
     generalize w3.drew = w15 at BK187 HB hHeld ⊢
     refine sqp HT_ 0 4 ?_
     refine sqw HT_ HW_ 1 5 hHeld ?_
     refine sqo HT_ 2 6 (fun K hK => ?_)
     refine sqG Try.func80 #[.agg #[.int .i64 a0_2, .int .i64 a0_3, .int .i64 a0_4, .int .i64 a0_5]] ?_
     with_reducible refine (spec_ValOk.calls k a0_2 a0_3 a0_4 a0_5 true _ A4.out).mono ?_
     rintro e w16 ⟨rfl, hb⟩
     refine ⟨_, rfl, ?_⟩
     replace BK187 := sqb BK187 hb
     replace HB := sqs HB hb
     (try clear hb)
     refine hK.out _ _ sqz (fun hHeld => ?_)
     clear hK K
     refine sqnm ?_
     refine sqp HT_ 3 7 ?_
     refine sqp HT_ 4 8 ?_
     refine sqp HT_ 5 9 ?_
     refine sqp HT_ 9 13 ?_
     refine sqw HT_ HW_ 6 10 hHeld ?_
     refine sqp HT_ 7 11 ?_
     refine sqp HT_ 8 12 ?_
     refine sqw HT_ HW_ 10 14 hHeld ?_
     refine sqo HT_ 11 15 (fun K hK => ?_)
     refine sqG Try.func100 #[] ?_
     with_reducible refine (spec_l10None.calls  t189 t190 t191 t192 _ A6.out).mono ?_
     rintro e w17 ⟨rfl, hb⟩
     refine ⟨_, rfl, ?_⟩
     replace BK187 := sqb BK187 hb
     replace HB := sqs HB hb
     (try clear hb)
     refine hK.out _ _ sqz (fun hHeld => ?_)
     clear hK K
     refine sqnm ?_
     refine sqp HT_ 12 16 ?_
     refine sqp HT_ 13 17 ?_
     refine sqp HT_ 14 18 ?_
     refine sqp HT_ 15 19 ?_
     refine sqp HT_ 16 20 ?_
     refine sqw HT_ HW_ 17 21 hHeld ?_
     refine sqp HT_ 18 22 ?_
     refine sqp HT_ 19 23 ?_
     refine sqp HT_ 20 24 ?_
     refine sqw HT_ HW_ 21 25 hHeld ?_
     refine sqp HT_ 22 26 ?_
     refine sqp HT_ 23 27 ?_
     refine sqp HT_ 24 28 ?_
     refine sqp HT_ 25 29 ?_
     refine done_ (done_of HT_.out (by kernel_rfl)) ?_
     try go_wp2
     go_meet
     case rel => exact ⟨_, (((l0_1.length : Int) == 0)), (by first | rfl | (simp; done) | (simp [*]; done)), H', ⟨by first | omega | exact Nat.le_refl _⟩, sqk BK187, sqh HB⟩
  ·replace c5 := Bool.eq_false_iff.mpr c5
   subst c5
   have H1 : (spec_l12RefOk.j0 k true a0_0 l0_1 a0_2 a0_3 a0_4 a0_5) = some r := by rw [if_neg (show ¬ (false = true) by decide)] at H; exact H
   clear H
   have H := H1
   clear H1
   have H' := Aside0.mk H
   clear H
   try go_wp2
   replace BK187 := Aside0.mk (blk_drew BK187.out)
   replace HB := Aside0.mk (below_drew1 HB.out)
   refine start_ (n := 26) (S := fun w' => w'.cell? ⟨gb187, 0, none⟩ = some (.bool a0_0) ∧ w'.cell? ⟨gb187, 1, none⟩ = some (.slice A0_1 l0_1.length c0_1) ∧ w'.cell? ⟨gb187, 2, none⟩ = some (.int .i64 a0_2) ∧ w'.cell? ⟨gb187, 3, none⟩ = some (.int .i64 a0_3) ∧ w'.cell? ⟨gb187, 4, none⟩ = some (.int .i64 a0_4) ∧ w'.cell? ⟨gb187, 5, none⟩ = some (.int .i64 a0_5)) (ds := []) #[false, false, false, false, false, false, false, false, false, false, false, false, false, false, false, false, false, false, false, false, false, false, false, false, false, false] (by kernel_rfl) rfl rfl ⟨(blk_cell BK187.out 0).trans rfl, (blk_cell BK187.out 1).trans rfl, (blk_cell BK187.out 2).trans rfl, (blk_cell BK187.out 3).trans rfl, (blk_cell BK187.out 4).trans rfl, (blk_cell BK187.out 5).trans rfl⟩ (fun hHeld => ?_); refine with_tabW spec_l12RefOk.tab1 spec_l12RefOk.bits1 (fun HT_ HW_ => ?_)
   generalize w3.drew = w18 at BK187 HB hHeld ⊢
   refine sqp HT_ 0 4 ?_
   refine sqw HT_ HW_ 1 5 hHeld ?_
   refine sqo HT_ 2 6 (fun K hK => ?_)
   refine sqG Try.func80 #[.agg #[.int .i64 a0_2, .int .i64 a0_3, .int .i64 a0_4, .int .i64 a0_5]] ?_
   with_reducible refine (spec_ValOk.calls k a0_2 a0_3 a0_4 a0_5 false _ A4.out).mono ?_
   rintro e w19 ⟨rfl, hb⟩
   refine ⟨_, rfl, ?_⟩
   replace BK187 := sqb BK187 hb
   replace HB := sqs HB hb
   (try clear hb)
   refine hK.out _ _ sqz (fun hHeld => ?_)
   clear hK K
   refine sqnm ?_
   refine sqp HT_ 3 7 ?_
   refine sqp HT_ 4 8 ?_
   refine sqpu HT_ 5 9 ?_
   refine sqpu HT_ 6 10 ?_
   refine sqpu HT_ 7 11 ?_
   refine sqpu HT_ 8 12 ?_
   refine sqpu HT_ 9 13 ?_
   refine sqpu HT_ 10 14 ?_
   refine sqpu HT_ 11 15 ?_
   refine sqpu HT_ 12 16 ?_
   refine sqpu HT_ 13 17 ?_
   refine sqp HT_ 14 18 ?_
   refine sqp HT_ 15 19 ?_
   refine sqpu HT_ 16 20 ?_
   refine sqpu HT_ 17 21 ?_
   refine sqpu HT_ 18 22 ?_
   refine sqpu HT_ 19 23 ?_
   refine sqpu HT_ 20 24 ?_
   refine sqpu HT_ 21 25 ?_
   refine sqpu HT_ 22 26 ?_
   refine sqpu HT_ 23 27 ?_
   refine sqpu HT_ 24 28 ?_
   refine sqp HT_ 25 29 ?_
   refine done_ (done_of HT_.out (by kernel_rfl)) ?_
   try go_wp2
   go_meet
   case rel => exact ⟨_, (true), (by first | rfl | (simp; done) | (simp [*]; done)), H', ⟨by first | omega | exact Nat.le_refl _⟩, sqk BK187, sqh HB⟩
 case rest =>
  clear HC2
  obtain ⟨kq, x29_1, rfl, HA, HJ1, BK187, HB⟩ := hcut
  cases kq with
  | zero => exact absurd HA.out (by simp [spec_l12RefOk.j0])
  | succ kj1 =>
   have H := HA.out
   clear HA
   simp only [spec_l12RefOk.j0] at H
   by_cases c20 : x29_1 = true
   ·subst c20
    have H1 : (some false) = some r := by rw [if_pos rfl] at H; exact H
    clear H
    have H := H1
    clear H1
    obtain rfl := Option.some.inj H
    go_wp2
    go_ret
    exact sqe HB
   ·replace c20 := Bool.eq_false_iff.mpr c20
    subst c20
    have H1 : (spec_l12RefOk.l0 kj1 0 a0_0 l0_1 a0_2 a0_3 a0_4 a0_5) = some r := by rw [if_neg (show ¬ (false = true) by decide)] at H; exact H
    clear H
    have H := H1
    clear H1
    have H' := Aside0.mk H
    clear H
    go_wp2
    go_loopg [3] kj1 (fun kq v3 w' => ∃ (x3_2 : Int), v3 = .int .i64 x3_2 ∧ Aside0 (spec_l12RefOk.l0 kq x3_2 a0_0 l0_1 a0_2 a0_3 a0_4 a0_5 = some r) ∧ Aside0 (kq ≤ kj1) ∧ Aside0 (w'.heap[gb187]? = some (.cells #[.bool a0_0, (.slice A0_1 l0_1.length c0_1), .int .i64 a0_2, .int .i64 a0_3, .int .i64 a0_4, .int .i64 a0_5] 132 (0, 0))) ∧ Aside0 (Below w.heap.size w w'))
    case atStart => exact ⟨(0), (by first | rfl | (simp; done) | (simp [*]; done)), H', ⟨Nat.le_refl _⟩, sqk BK187, sqh HB⟩
    case round =>
     clear H'
     try clear c1
     try clear c2
     try clear p2
     try clear c5
     try clear c8
     try clear c10
     try clear c11
     try clear c20
     try clear p2
     obtain ⟨x3_2, rfl, HA, HK2, BK187, HB⟩ := hrel
     cases gk with
     | zero => exact absurd HA.out (by simp [spec_l12RefOk.l0])
     | succ k2 =>
      have H := HA.out
      clear HA
      simp only [spec_l12RefOk.l0] at H
      by_cases c21 : x3_2 < (l0_1.length : Int)
      ·rw [if_pos c21] at H
       have c21b0 : decide (x3_2 < (l0_1.length : Int)) = true := decide_eq_true c21
       clear c21
       by_cases c22 : 0 ≤ x3_2
       ·rw [if_pos c22] at H
        have c22b0 : decide (0 ≤ x3_2) = true := decide_eq_true c22
        clear c22
        by_cases c23 : (rd l0_1 x3_2) < 0
        ·rw [if_pos c23] at H
         have c23b0 : decide ((rd l0_1 x3_2) < 0) = true := decide_eq_true c23
         clear c23
         obtain rfl := Option.some.inj H
         have hcz24_0 : wr.cell? ⟨gb187, 0, none⟩ = some (.bool a0_0) := (blk_cell BK187.out 0).trans rfl
         have hcz24_1 : wr.cell? ⟨gb187, 1, none⟩ = some (.slice A0_1 l0_1.length c0_1) := (blk_cell BK187.out 1).trans rfl
         have hcz24_2 : wr.cell? ⟨gb187, 2, none⟩ = some (.int .i64 a0_2) := (blk_cell BK187.out 2).trans rfl
         have hcz24_3 : wr.cell? ⟨gb187, 3, none⟩ = some (.int .i64 a0_3) := (blk_cell BK187.out 3).trans rfl
         have hcz24_4 : wr.cell? ⟨gb187, 4, none⟩ = some (.int .i64 a0_4) := (blk_cell BK187.out 4).trans rfl
         have hcz24_5 : wr.cell? ⟨gb187, 5, none⟩ = some (.int .i64 a0_5) := (blk_cell BK187.out 5).trans rfl
         have hfz24_0 := blk_frozen BK187.out 0
         have hfz24_1 := blk_frozen BK187.out 1
         have hfz24_2 := blk_frozen BK187.out 2
         have hfz24_3 := blk_frozen BK187.out 3
         have hfz24_4 := blk_frozen BK187.out 4
         have hfz24_5 := blk_frozen BK187.out 5
         try go_wp2
         replace BK187 := Aside0.mk (blk_drew BK187.out)
         replace HB := Aside0.mk (below_drew1 HB.out)
         have p193 : 0 ≤ (x3_2 : Int) := of_decide_eq_true (by first | (with_reducible assumption) | assumption)
         have q193 : x3_2 < (l0_1.length : Int) := of_decide_eq_true (by first | (with_reducible assumption) | assumption)
         obtain ⟨ad193, e193, hx193_0⟩ := Kd.at_int HR0_1.out x3_2 p193 q193
         have hw193_0 := hx193_0
         cases e193
         replace hx193_0 := (HB.out.cell (World.block_lt_of_cell? w _ hx193_0)).trans hx193_0
         replace p193 := eq_true p193
         replace q193 := eq_true q193
         refine start_ (n := 24) (S := fun w' => w'.cell? ⟨gb187, 0, none⟩ = some (.bool a0_0) ∧ w'.cell? ⟨gb187, 1, none⟩ = some (.slice (some ad193) l0_1.length c0_1) ∧ w'.cell? ⟨gb187, 2, none⟩ = some (.int .i64 a0_2) ∧ w'.cell? ⟨gb187, 3, none⟩ = some (.int .i64 a0_3) ∧ w'.cell? ⟨gb187, 4, none⟩ = some (.int .i64 a0_4) ∧ w'.cell? ⟨gb187, 5, none⟩ = some (.int .i64 a0_5) ∧ w'.cell? (ad193.add (x3_2).toNat) = some (.int .i64 (rd l0_1 x3_2))) (ds := []) #[false, false, false, false, false, false, false, false, false, false, false, false, false, false, false, false, false, false, false, false, false, false, false, false] (by kernel_rfl) rfl rfl ⟨(blk_cell BK187.out 0).trans rfl, (blk_cell BK187.out 1).trans rfl, (blk_cell BK187.out 2).trans rfl, (blk_cell BK187.out 3).trans rfl, (blk_cell BK187.out 4).trans rfl, (blk_cell BK187.out 5).trans rfl, ((HB.out.cell (World.block_lt_of_cell? w _ hw193_0)).trans hw193_0)⟩ (fun hHeld => ?_); refine with_tabW spec_l12RefOk.tab6 spec_l12RefOk.bits6 (fun HT_ HW_ => ?_)
         generalize wr.drew = w25 at BK187 HB hx193_0 hHeld ⊢
         refine sqp HT_ 0 37 ?_
         refine sqp HT_ 2 39 ?_
         refine sqw HT_ HW_ 1 38 hHeld ?_
         refine sqp HT_ 3 40 ?_
         refine sqw HT_ HW_ 4 41 hHeld ?_
         refine sqp HT_ 5 42 ?_
         refine sqp HT_ 6 43 ?_
         refine sqpu HT_ 7 44 ?_
         refine sqpu HT_ 8 45 ?_
         refine sqpu HT_ 9 46 ?_
         refine sqpu HT_ 10 47 ?_
         refine sqpu HT_ 11 48 ?_
         refine sqpu HT_ 12 49 ?_
         refine sqpu HT_ 13 50 ?_
         refine sqpu HT_ 14 51 ?_
         refine sqpu HT_ 15 52 ?_
         refine sqpu HT_ 16 53 ?_
         refine sqpu HT_ 17 54 ?_
         refine sqpu HT_ 18 55 ?_
         refine sqpu HT_ 19 56 ?_
         refine sqpu HT_ 20 57 ?_
         refine sqpu HT_ 21 58 ?_
         refine sqpu HT_ 22 59 ?_
         refine sqp HT_ 23 60 ?_
         refine done_ (done_of HT_.out (by kernel_rfl)) ?_
         try go_wp2
         go_ret
         exact sqe HB
        ·rw [if_neg c23] at H
         have c23b0 : decide ((rd l0_1 x3_2) < 0) = false := decide_eq_false c23
         clear c23
         by_cases c26 : x3_2 > 0
         ·rw [if_pos c26] at H
          have c26b0 : decide (0 < x3_2) = true := decide_eq_true c26
          clear c26
          obtain ⟨ji27, hji27⟩ : ∃ j_ : Int, (wrap64 (x3_2 - 1)) = j_ := ⟨_, rfl⟩
          replace H : (if 0 ≤ (ji27) then (if (ji27) < (l0_1.length : Int) then (if (rd l0_1 (ji27)) ≥ (rd l0_1 x3_2) then (some false) else (spec_l12RefOk.l0 k2 (wrap64 (x3_2 + 1)) a0_0 l0_1 a0_2 a0_3 a0_4 a0_5)) else (none)) else (none)) = some r := by first | (rw [hji27] at H; exact H) | (simp only [hji27] at H ⊢; exact H)
          have hji27w : (IntKind.i64.wrap (x3_2 - 1)) = ji27 := (i64_w _).trans hji27
          by_cases c28 : 0 ≤ (ji27)
          ·rw [if_pos c28] at H
           have c28b0 : decide (0 ≤ (ji27)) = true := decide_eq_true c28
           clear c28
           by_cases c29 : (ji27) < (l0_1.length : Int)
           ·rw [if_pos c29] at H
            have c29b0 : decide ((ji27) < (l0_1.length : Int)) = true := decide_eq_true c29
            clear c29
            by_cases c30 : (rd l0_1 (ji27)) ≥ (rd l0_1 x3_2)
            ·rw [if_pos c30] at H
             have c30b0 : decide ((rd l0_1 x3_2) ≤ (rd l0_1 (ji27))) = true := decide_eq_true c30
             clear c30
             obtain rfl := Option.some.inj H
             have hcz31_0 : wr.cell? ⟨gb187, 0, none⟩ = some (.bool a0_0) := (blk_cell BK187.out 0).trans rfl
             have hcz31_1 : wr.cell? ⟨gb187, 1, none⟩ = some (.slice A0_1 l0_1.length c0_1) := (blk_cell BK187.out 1).trans rfl
             have hcz31_2 : wr.cell? ⟨gb187, 2, none⟩ = some (.int .i64 a0_2) := (blk_cell BK187.out 2).trans rfl
             have hcz31_3 : wr.cell? ⟨gb187, 3, none⟩ = some (.int .i64 a0_3) := (blk_cell BK187.out 3).trans rfl
             have hcz31_4 : wr.cell? ⟨gb187, 4, none⟩ = some (.int .i64 a0_4) := (blk_cell BK187.out 4).trans rfl
             have hcz31_5 : wr.cell? ⟨gb187, 5, none⟩ = some (.int .i64 a0_5) := (blk_cell BK187.out 5).trans rfl
             have hfz31_0 := blk_frozen BK187.out 0
             have hfz31_1 := blk_frozen BK187.out 1
             have hfz31_2 := blk_frozen BK187.out 2
             have hfz31_3 := blk_frozen BK187.out 3
             have hfz31_4 := blk_frozen BK187.out 4
             have hfz31_5 := blk_frozen BK187.out 5
             try go_wp2
             replace BK187 := Aside0.mk (blk_drew BK187.out)
             replace HB := Aside0.mk (below_drew1 HB.out)
             have p193 : 0 ≤ (x3_2 : Int) := of_decide_eq_true (by first | (with_reducible assumption) | assumption)
             have q193 : x3_2 < (l0_1.length : Int) := of_decide_eq_true (by first | (with_reducible assumption) | assumption)
             obtain ⟨ad193, e193, hx193_0⟩ := Kd.at_int HR0_1.out x3_2 p193 q193
             have hw193_0 := hx193_0
             cases e193
             replace hx193_0 := (HB.out.cell (World.block_lt_of_cell? w _ hx193_0)).trans hx193_0
             replace p193 := eq_true p193
             replace q193 := eq_true q193
             have p194 : 0 ≤ ((ji27) : Int) := of_decide_eq_true (by first | (with_reducible assumption) | assumption)
             have q194 : (ji27) < (l0_1.length : Int) := of_decide_eq_true (by first | (with_reducible assumption) | assumption)
             obtain ⟨ad194, e194, hx194_0⟩ := Kd.at_int HR0_1.out (ji27) p194 q194
             have hw194_0 := hx194_0
             obtain rfl : ad193 = ad194 := (by injection e194)
             replace hx194_0 := (HB.out.cell (World.block_lt_of_cell? w _ hx194_0)).trans hx194_0
             replace p194 := eq_true p194
             replace q194 := eq_true q194
             have p195 : 0 ≤ (x3_2 : Int) := of_decide_eq_true (by first | (with_reducible assumption) | assumption)
             have q195 : x3_2 < (l0_1.length : Int) := of_decide_eq_true (by first | (with_reducible assumption) | assumption)
             obtain ⟨ad195, e195, hx195_0⟩ := Kd.at_int HR0_1.out x3_2 p195 q195
             have hw195_0 := hx195_0
             obtain rfl : ad193 = ad195 := (by injection e195)
             replace hx195_0 := (HB.out.cell (World.block_lt_of_cell? w _ hx195_0)).trans hx195_0
             replace p195 := eq_true p195
             replace q195 := eq_true q195
             refine start_ (n := 24) (S := fun w' => w'.cell? ⟨gb187, 0, none⟩ = some (.bool a0_0) ∧ w'.cell? ⟨gb187, 1, none⟩ = some (.slice (some ad193) l0_1.length c0_1) ∧ w'.cell? ⟨gb187, 2, none⟩ = some (.int .i64 a0_2) ∧ w'.cell? ⟨gb187, 3, none⟩ = some (.int .i64 a0_3) ∧ w'.cell? ⟨gb187, 4, none⟩ = some (.int .i64 a0_4) ∧ w'.cell? ⟨gb187, 5, none⟩ = some (.int .i64 a0_5) ∧ w'.cell? (ad193.add (x3_2).toNat) = some (.int .i64 (rd l0_1 x3_2)) ∧ w'.cell? (ad193.add ((ji27)).toNat) = some (.int .i64 (rd l0_1 (ji27))) ∧ w'.cell? (ad193.add (x3_2).toNat) = some (.int .i64 (rd l0_1 x3_2))) (ds := []) #[false, false, false, false, false, false, false, false, false, false, false, false, false, false, false, false, false, false, false, false, false, false, false, false] (by kernel_rfl) rfl rfl ⟨(blk_cell BK187.out 0).trans rfl, (blk_cell BK187.out 1).trans rfl, (blk_cell BK187.out 2).trans rfl, (blk_cell BK187.out 3).trans rfl, (blk_cell BK187.out 4).trans rfl, (blk_cell BK187.out 5).trans rfl, ((HB.out.cell (World.block_lt_of_cell? w _ hw193_0)).trans hw193_0), ((HB.out.cell (World.block_lt_of_cell? w _ hw194_0)).trans hw194_0), ((HB.out.cell (World.block_lt_of_cell? w _ hw195_0)).trans hw195_0)⟩ (fun hHeld => ?_); refine with_tabW spec_l12RefOk.tab6 spec_l12RefOk.bits6 (fun HT_ HW_ => ?_)
             generalize wr.drew = w32 at BK187 HB hx193_0 hx194_0 hx195_0 hHeld ⊢
             refine sqp HT_ 0 37 ?_
             refine sqp HT_ 2 39 ?_
             refine sqw HT_ HW_ 1 38 hHeld ?_
             refine sqp HT_ 3 40 ?_
             refine sqw HT_ HW_ 4 41 hHeld ?_
             refine sqp HT_ 5 42 ?_
             refine sqp HT_ 6 43 ?_
             refine sqp HT_ 7 44 ?_
             refine sqp HT_ 8 45 ?_
             refine sqp HT_ 9 46 ?_
             refine sqp HT_ 10 47 ?_
             refine sqp HT_ 12 49 ?_
             refine sqp HT_ 13 50 ?_
             refine sqp HT_ 16 53 ?_
             refine sqp HT_ 18 55 ?_
             refine sqw HT_ HW_ 11 48 hHeld ?_
             refine sqp HT_ 14 51 ?_
             refine sqw HT_ HW_ 15 52 hHeld ?_
             refine sqw HT_ HW_ 17 54 hHeld ?_
             refine sqp HT_ 19 56 ?_
             refine sqw HT_ HW_ 20 57 hHeld ?_
             refine sqp HT_ 21 58 ?_
             refine sqp HT_ 22 59 ?_
             refine sqp HT_ 23 60 ?_
             refine done_ (done_of HT_.out (by kernel_rfl)) ?_
             try go_wp2
             go_ret
             exact ⟨by first | rfl | (simp [errW_none, errW_some] <;> rfl) | (simp only [← hji27]; first | rfl | (simp [errW_none, errW_some] <;> rfl)) | (simp [*, errW_none, errW_some] <;> rfl), by repeat (first | (with_reducible first | exact HB.out | apply below_alloc | apply pw_below_drewN | apply below_drew1 | refine below_set ?_ GE187.out) | exact HB.out)⟩
            ·rw [if_neg c30] at H
             have c30b0 : decide ((rd l0_1 x3_2) ≤ (rd l0_1 (ji27))) = false := decide_eq_false c30
             clear c30
             have H' := Aside0.mk H
             clear H
             have hcz33_0 : wr.cell? ⟨gb187, 0, none⟩ = some (.bool a0_0) := (blk_cell BK187.out 0).trans rfl
             have hcz33_1 : wr.cell? ⟨gb187, 1, none⟩ = some (.slice A0_1 l0_1.length c0_1) := (blk_cell BK187.out 1).trans rfl
             have hcz33_2 : wr.cell? ⟨gb187, 2, none⟩ = some (.int .i64 a0_2) := (blk_cell BK187.out 2).trans rfl
             have hcz33_3 : wr.cell? ⟨gb187, 3, none⟩ = some (.int .i64 a0_3) := (blk_cell BK187.out 3).trans rfl
             have hcz33_4 : wr.cell? ⟨gb187, 4, none⟩ = some (.int .i64 a0_4) := (blk_cell BK187.out 4).trans rfl
             have hcz33_5 : wr.cell? ⟨gb187, 5, none⟩ = some (.int .i64 a0_5) := (blk_cell BK187.out 5).trans rfl
             have hfz33_0 := blk_frozen BK187.out 0
             have hfz33_1 := blk_frozen BK187.out 1
             have hfz33_2 := blk_frozen BK187.out 2
             have hfz33_3 := blk_frozen BK187.out 3
             have hfz33_4 := blk_frozen BK187.out 4
             have hfz33_5 := blk_frozen BK187.out 5
             try go_wp2
             replace BK187 := Aside0.mk (blk_drew BK187.out)
             replace HB := Aside0.mk (below_drew1 HB.out)
             have p193 : 0 ≤ (x3_2 : Int) := of_decide_eq_true (by first | (with_reducible assumption) | assumption)
             have q193 : x3_2 < (l0_1.length : Int) := of_decide_eq_true (by first | (with_reducible assumption) | assumption)
             obtain ⟨ad193, e193, hx193_0⟩ := Kd.at_int HR0_1.out x3_2 p193 q193
             have hw193_0 := hx193_0
             cases e193
             replace hx193_0 := (HB.out.cell (World.block_lt_of_cell? w _ hx193_0)).trans hx193_0
             replace p193 := eq_true p193
             replace q193 := eq_true q193
             have p194 : 0 ≤ ((ji27) : Int) := of_decide_eq_true (by first | (with_reducible assumption) | assumption)
             have q194 : (ji27) < (l0_1.length : Int) := of_decide_eq_true (by first | (with_reducible assumption) | assumption)
             obtain ⟨ad194, e194, hx194_0⟩ := Kd.at_int HR0_1.out (ji27) p194 q194
             have hw194_0 := hx194_0
             obtain rfl : ad193 = ad194 := (by injection e194)
             replace hx194_0 := (HB.out.cell (World.block_lt_of_cell? w _ hx194_0)).trans hx194_0
             replace p194 := eq_true p194
             replace q194 := eq_true q194
             have p195 : 0 ≤ (x3_2 : Int) := of_decide_eq_true (by first | (with_reducible assumption) | assumption)
             have q195 : x3_2 < (l0_1.length : Int) := of_decide_eq_true (by first | (with_reducible assumption) | assumption)
             obtain ⟨ad195, e195, hx195_0⟩ := Kd.at_int HR0_1.out x3_2 p195 q195
             have hw195_0 := hx195_0
             obtain rfl : ad193 = ad195 := (by injection e195)
             replace hx195_0 := (HB.out.cell (World.block_lt_of_cell? w _ hx195_0)).trans hx195_0
             replace p195 := eq_true p195
             replace q195 := eq_true q195
             refine start_ (n := 24) (S := fun w' => w'.cell? ⟨gb187, 0, none⟩ = some (.bool a0_0) ∧ w'.cell? ⟨gb187, 1, none⟩ = some (.slice (some ad193) l0_1.length c0_1) ∧ w'.cell? ⟨gb187, 2, none⟩ = some (.int .i64 a0_2) ∧ w'.cell? ⟨gb187, 3, none⟩ = some (.int .i64 a0_3) ∧ w'.cell? ⟨gb187, 4, none⟩ = some (.int .i64 a0_4) ∧ w'.cell? ⟨gb187, 5, none⟩ = some (.int .i64 a0_5) ∧ w'.cell? (ad193.add (x3_2).toNat) = some (.int .i64 (rd l0_1 x3_2)) ∧ w'.cell? (ad193.add ((ji27)).toNat) = some (.int .i64 (rd l0_1 (ji27))) ∧ w'.cell? (ad193.add (x3_2).toNat) = some (.int .i64 (rd l0_1 x3_2))) (ds := []) #[false, false, false, false, false, false, false, false, false, false, false, false, false, false, false, false, false, false, false, false, false, false, false, false] (by kernel_rfl) rfl rfl ⟨(blk_cell BK187.out 0).trans rfl, (blk_cell BK187.out 1).trans rfl, (blk_cell BK187.out 2).trans rfl, (blk_cell BK187.out 3).trans rfl, (blk_cell BK187.out 4).trans rfl, (blk_cell BK187.out 5).trans rfl, ((HB.out.cell (World.block_lt_of_cell? w _ hw193_0)).trans hw193_0), ((HB.out.cell (World.block_lt_of_cell? w _ hw194_0)).trans hw194_0), ((HB.out.cell (World.block_lt_of_cell? w _ hw195_0)).trans hw195_0)⟩ (fun hHeld => ?_); refine with_tabW spec_l12RefOk.tab6 spec_l12RefOk.bits6 (fun HT_ HW_ => ?_)
             generalize wr.drew = w34 at BK187 HB hx193_0 hx194_0 hx195_0 hHeld ⊢
             refine sqp HT_ 0 37 ?_
             refine sqp HT_ 2 39 ?_
             refine sqw HT_ HW_ 1 38 hHeld ?_
             refine sqp HT_ 3 40 ?_
             refine sqw HT_ HW_ 4 41 hHeld ?_
             refine sqp HT_ 5 42 ?_
             refine sqp HT_ 6 43 ?_
             refine sqp HT_ 7 44 ?_
             refine sqp HT_ 8 45 ?_
             refine sqp HT_ 9 46 ?_
             refine sqp HT_ 10 47 ?_
             refine sqp HT_ 12 49 ?_
             refine sqp HT_ 13 50 ?_
             refine sqp HT_ 16 53 ?_
             refine sqp HT_ 18 55 ?_
             refine sqw HT_ HW_ 11 48 hHeld ?_
             refine sqp HT_ 14 51 ?_
             refine sqw HT_ HW_ 15 52 hHeld ?_
             refine sqw HT_ HW_ 17 54 hHeld ?_
             refine sqp HT_ 19 56 ?_
             refine sqw HT_ HW_ 20 57 hHeld ?_
             refine sqp HT_ 21 58 ?_
             refine sqp HT_ 22 59 ?_
             refine sqp HT_ 23 60 ?_
             refine done_ (done_of HT_.out (by kernel_rfl)) ?_
             try go_wp2
             go_roundg k2
             case measure => have := HJ1.out; have := HK2.out; omega
             case rel => exact ⟨(wrap64 (x3_2 + 1)), (by first | rfl | (simp; done) | (simp [*]; done)), H', ⟨by have := HJ1.out; have := HK2.out; omega⟩, sqk BK187, sqh HB⟩
           ·rw [if_neg c29] at H
            exact absurd H (by simp)
          ·rw [if_neg c28] at H
           exact absurd H (by simp)
         ·rw [if_neg c26] at H
          have c26b0 : decide (0 < x3_2) = false := decide_eq_false c26
          clear c26
          have H' := Aside0.mk H
          clear H
          have hcz35_0 : wr.cell? ⟨gb187, 0, none⟩ = some (.bool a0_0) := (blk_cell BK187.out 0).trans rfl
          have hcz35_1 : wr.cell? ⟨gb187, 1, none⟩ = some (.slice A0_1 l0_1.length c0_1) := (blk_cell BK187.out 1).trans rfl
          have hcz35_2 : wr.cell? ⟨gb187, 2, none⟩ = some (.int .i64 a0_2) := (blk_cell BK187.out 2).trans rfl
          have hcz35_3 : wr.cell? ⟨gb187, 3, none⟩ = some (.int .i64 a0_3) := (blk_cell BK187.out 3).trans rfl
          have hcz35_4 : wr.cell? ⟨gb187, 4, none⟩ = some (.int .i64 a0_4) := (blk_cell BK187.out 4).trans rfl
          have hcz35_5 : wr.cell? ⟨gb187, 5, none⟩ = some (.int .i64 a0_5) := (blk_cell BK187.out 5).trans rfl
          have hfz35_0 := blk_frozen BK187.out 0
          have hfz35_1 := blk_frozen BK187.out 1
          have hfz35_2 := blk_frozen BK187.out 2
          have hfz35_3 := blk_frozen BK187.out 3
          have hfz35_4 := blk_frozen BK187.out 4
          have hfz35_5 := blk_frozen BK187.out 5
          try go_wp2
          replace BK187 := Aside0.mk (blk_drew BK187.out)
          replace HB := Aside0.mk (below_drew1 HB.out)
          have p193 : 0 ≤ (x3_2 : Int) := of_decide_eq_true (by first | (with_reducible assumption) | assumption)
          have q193 : x3_2 < (l0_1.length : Int) := of_decide_eq_true (by first | (with_reducible assumption) | assumption)
          obtain ⟨ad193, e193, hx193_0⟩ := Kd.at_int HR0_1.out x3_2 p193 q193
          have hw193_0 := hx193_0
          cases e193
          replace hx193_0 := (HB.out.cell (World.block_lt_of_cell? w _ hx193_0)).trans hx193_0
          replace p193 := eq_true p193
          replace q193 := eq_true q193
          refine start_ (n := 24) (S := fun w' => w'.cell? ⟨gb187, 0, none⟩ = some (.bool a0_0) ∧ w'.cell? ⟨gb187, 1, none⟩ = some (.slice (some ad193) l0_1.length c0_1) ∧ w'.cell? ⟨gb187, 2, none⟩ = some (.int .i64 a0_2) ∧ w'.cell? ⟨gb187, 3, none⟩ = some (.int .i64 a0_3) ∧ w'.cell? ⟨gb187, 4, none⟩ = some (.int .i64 a0_4) ∧ w'.cell? ⟨gb187, 5, none⟩ = some (.int .i64 a0_5) ∧ w'.cell? (ad193.add (x3_2).toNat) = some (.int .i64 (rd l0_1 x3_2))) (ds := []) #[false, false, false, false, false, false, false, false, false, false, false, false, false, false, false, false, false, false, false, false, false, false, false, false] (by kernel_rfl) rfl rfl ⟨(blk_cell BK187.out 0).trans rfl, (blk_cell BK187.out 1).trans rfl, (blk_cell BK187.out 2).trans rfl, (blk_cell BK187.out 3).trans rfl, (blk_cell BK187.out 4).trans rfl, (blk_cell BK187.out 5).trans rfl, ((HB.out.cell (World.block_lt_of_cell? w _ hw193_0)).trans hw193_0)⟩ (fun hHeld => ?_); refine with_tabW spec_l12RefOk.tab6 spec_l12RefOk.bits6 (fun HT_ HW_ => ?_)
          generalize wr.drew = w36 at BK187 HB hx193_0 hHeld ⊢
          refine sqp HT_ 0 37 ?_
          refine sqp HT_ 2 39 ?_
          refine sqw HT_ HW_ 1 38 hHeld ?_
          refine sqp HT_ 3 40 ?_
          refine sqw HT_ HW_ 4 41 hHeld ?_
          refine sqp HT_ 5 42 ?_
          refine sqp HT_ 6 43 ?_
          refine sqp HT_ 7 44 ?_
          refine sqp HT_ 8 45 ?_
          refine sqp HT_ 9 46 ?_
          refine sqpu HT_ 10 47 ?_
          refine sqpu HT_ 11 48 ?_
          refine sqpu HT_ 12 49 ?_
          refine sqpu HT_ 13 50 ?_
          refine sqpu HT_ 14 51 ?_
          refine sqpu HT_ 15 52 ?_
          refine sqpu HT_ 16 53 ?_
          refine sqpu HT_ 17 54 ?_
          refine sqpu HT_ 18 55 ?_
          refine sqpu HT_ 19 56 ?_
          refine sqpu HT_ 20 57 ?_
          refine sqpu HT_ 21 58 ?_
          refine sqp HT_ 22 59 ?_
          refine sqp HT_ 23 60 ?_
          refine done_ (done_of HT_.out (by kernel_rfl)) ?_
          try go_wp2
          go_roundg k2
          case measure => have := HJ1.out; have := HK2.out; omega
          case rel => exact ⟨(wrap64 (x3_2 + 1)), (by first | rfl | (simp; done) | (simp [*]; done)), H', ⟨by have := HJ1.out; have := HK2.out; omega⟩, sqk BK187, sqh HB⟩
       ·rw [if_neg c22] at H
        exact absurd H (by simp)
      ·rw [if_neg c21] at H
       have c21b0 : decide (x3_2 < (l0_1.length : Int)) = false := decide_eq_false c21
       clear c21
       obtain rfl := Option.some.inj H
       have hcz37_0 : wr.cell? ⟨gb187, 0, none⟩ = some (.bool a0_0) := (blk_cell BK187.out 0).trans rfl
       have hcz37_1 : wr.cell? ⟨gb187, 1, none⟩ = some (.slice A0_1 l0_1.length c0_1) := (blk_cell BK187.out 1).trans rfl
       have hcz37_2 : wr.cell? ⟨gb187, 2, none⟩ = some (.int .i64 a0_2) := (blk_cell BK187.out 2).trans rfl
       have hcz37_3 : wr.cell? ⟨gb187, 3, none⟩ = some (.int .i64 a0_3) := (blk_cell BK187.out 3).trans rfl
       have hcz37_4 : wr.cell? ⟨gb187, 4, none⟩ = some (.int .i64 a0_4) := (blk_cell BK187.out 4).trans rfl
       have hcz37_5 : wr.cell? ⟨gb187, 5, none⟩ = some (.int .i64 a0_5) := (blk_cell BK187.out 5).trans rfl
       have hfz37_0 := blk_frozen BK187.out 0
       have hfz37_1 := blk_frozen BK187.out 1
       have hfz37_2 := blk_frozen BK187.out 2
       have hfz37_3 := blk_frozen BK187.out 3
       have hfz37_4 := blk_frozen BK187.out 4
       have hfz37_5 := blk_frozen BK187.out 5
       go_wp2
       go_ret
       exact sqe HB

end Go.Proofs.Ytkekcenlleebeaa.PFnExactAbsOk
