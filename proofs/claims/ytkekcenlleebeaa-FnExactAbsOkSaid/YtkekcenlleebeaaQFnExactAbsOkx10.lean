/- Functions of the program as plain Lean functions, and that calls of them come to what these tell. Conditions: those in each law. -/
import Derived.Test.YtkekcenlleebeaaSq
import Derived.Test.YtkekcenlleebeaaDFnExactAbsOk
import Derived.Test.YtkekcenlleebeaaQFnExactAbsOkx0
import Derived.Test.YtkekcenlleebeaaQFnExactAbsOkx2
import Derived.Test.YtkekcenlleebeaaQFnExactAbsOkx4
import Derived.Test.YtkekcenlleebeaaQFnExactAbsOkx8
namespace Go.Proofs.Ytkekcenlleebeaa.PFnExactAbsOk
open Go.RowKit Go.Proofs.Ytkekcenlleebeaa.Sq Go.Proofs.YtkekcenlleebeaaW.PrintWords Go.Proofs.YtkekcenlleebeaaW.PrintLast Go.Proofs.YtkekcenlleebeaaW.PrintMore
attribute [local go_sem] max2_int min2_int max_two min_two max_three min_three max_four min_four   -- for this text's walks alone
set_option linter.unusedVariables false
set_option linter.unusedSimpArgs false

attribute [local go_sem high] eqA30
/-! ### spec_l12Vals: function 140 -/
theorem spec_l12Vals.mono_l : ∀ k, (∀ y0 y1, LeO (spec_l12Vals.l0 k y0 y1) (spec_l12Vals.l0 (k + 1) y0 y1))
 | 0 => fun _ _ r h => by simp [spec_l12Vals.l0] at h
 | k + 1 => by
  have ih0 := spec_l12Vals.mono_l k
  ·intro y0 y1
   unfold spec_l12Vals.l0
   repeat' first
   | (with_reducible exact ih0 _ _)
   | (with_reducible exact spec_ValOk.mono _ _ _ _ _)
   | (with_reducible exact LeO.refl _)
   | (with_reducible exact LeO.none _)
   | (with_reducible refine LeO.ite ?_ ?_)
   | (with_reducible refine LeO.bind ?_ (fun _ => ?_))
   | exact ih0 _ _
   | exact spec_ValOk.mono _ _ _ _ _
   | exact LeO.none _
   | refine LeO.ite ?_ ?_
   | refine LeO.bind ?_ (fun _ => ?_)
theorem spec_l12Vals.mono : ∀ a0 k, LeO (spec_l12Vals.f k a0) (spec_l12Vals.f (k + 1) a0) := by
 intro a0 k
 have ih0 := spec_l12Vals.mono_l k
 unfold spec_l12Vals.f
 repeat' first
   | (with_reducible exact ih0 _ _)
   | (with_reducible exact spec_ValOk.mono _ _ _ _ _)
   | (with_reducible exact LeO.refl _)
   | (with_reducible exact LeO.none _)
   | (with_reducible refine LeO.ite ?_ ?_)
   | (with_reducible refine LeO.bind ?_ (fun _ => ?_))
   | exact ih0 _ _
   | exact spec_ValOk.mono _ _ _ _ _
   | exact LeO.none _
   | refine LeO.ite ?_ ?_
   | refine LeO.bind ?_ (fun _ => ?_)
def spec_l12Vals.T4 : Bool × List (List Nat × List Nat) := (true, [([], []), ([], []), ([0, 1], [0, 1]), ([2], [2]), ([3], [3]), ([4], [4]), ([5, 4], [5]), ([6], [6]), ([6], [6]), ([7, 8, 6], [6, 7, 8]), ([9, 6], [6, 9]), ([6, 6], [6]), ([10, 11, 6], [6, 10, 11]), ([6, 12], [6, 12])])
def spec_l12Vals.B4 : List Nat := [0, 0, 3, 7, 15, 31, 63, 127, 127, 511, 1023, 127, 4095, 8191]
theorem spec_l12Vals.tab4 : rtab .any (opsOf Try.f140 4) = spec_l12Vals.T4 := by kernel_rfl
theorem spec_l12Vals.bits4 : waitsOk spec_l12Vals.T4.2 spec_l12Vals.B4 = true := by kernel_rfl
set_option maxHeartbeats 8000000 in
set_option maxRecDepth 100000 in
theorem spec_l12Vals.calls (k : Nat) (A0 : Option Addr) (c0 : Nat) (l0 : List (S30)) (r : Bool) (w : World) (hr0 : Kd.C k30 w A0 l0.length l0) (hc0 : l0.length ≤ c0) (h : spec_l12Vals.f k l0 = some r) :
  Calls Try.prog 140 #[.slice A0 l0.length c0] w fun e w' => e = .returned (.bool r) ∧ Below w.heap.size w w' := by
 have hu30 := Try.underlying30
 have HR0 := Aside0.mk hr0
 have HC0 := Aside0.mk hc0
 clear hr0 hc0
 have HB := Aside0.mk (Below.refl w.heap.size w)
 have H : (spec_l12Vals.l0 k l0 0) = some r := h
 clear h
 have H' := Aside0.mk H
 clear H
 go_enter Try.func140, Try.ntmps140
 go_wp2
 go_loopg [3] k (fun kq v3 w' => ∃ (x3_1 : Int), v3 = .int .i64 x3_1 ∧ Aside0 (spec_l12Vals.l0 kq l0 x3_1 = some r) ∧ Aside0 (kq ≤ k) ∧ Aside0 (Below w.heap.size w w'))
 case atStart => exact ⟨(0), (by first | rfl | (simp; done) | (simp [*]; done)), H', ⟨Nat.le_refl _⟩, sqh HB⟩
 case round =>
  clear H'
  try clear c1
  obtain ⟨x3_1, rfl, HA, HK1, HB⟩ := hrel
  cases gk with
  | zero => exact absurd HA.out (by simp [spec_l12Vals.l0])
  | succ k1 =>
   have H := HA.out
   clear HA
   simp only [spec_l12Vals.l0] at H
   by_cases c2 : x3_1 < (l0.length : Int)
   ·rw [if_pos c2] at H
    have c2b0 : decide (x3_1 < (l0.length : Int)) = true := decide_eq_true c2
    clear c2
    by_cases c3 : 0 ≤ x3_1
    ·rw [if_pos c3] at H
     have c3b0 : decide (0 ≤ x3_1) = true := decide_eq_true c3
     clear c3
     replace H := Option.bind_eq_some_iff.mp H
     obtain ⟨t197, A40, H⟩ := H
     replace H : (if t197 = true then ((spec_l10None.f).bind fun bt199 => (if (((rd_T30 l0 x3_1).f0) == bt199.1 && (((rd_T30 l0 x3_1).f1) == bt199.2.1 && (((rd_T30 l0 x3_1).f2) == bt199.2.2.1 && (((rd_T30 l0 x3_1).f3) == bt199.2.2.2)))) = true then (some false) else (spec_l12Vals.l0 k1 l0 (wrap64 (x3_1 + 1))))) else (some false)) = some r := H
     have A4 := Aside0.mk A40
     clear A40
     by_cases c5 : t197 = true
     ·subst c5
      have H1 : ((spec_l10None.f).bind fun bt199 => (if (((rd_T30 l0 x3_1).f0) == bt199.1 && (((rd_T30 l0 x3_1).f1) == bt199.2.1 && (((rd_T30 l0 x3_1).f2) == bt199.2.2.1 && (((rd_T30 l0 x3_1).f3) == bt199.2.2.2)))) = true then (some false) else (spec_l12Vals.l0 k1 l0 (wrap64 (x3_1 + 1))))) = some r := by rw [if_pos rfl] at H; exact H
      clear H
      have H := H1
      clear H1
      replace H := Option.bind_eq_some_iff.mp H
      obtain ⟨⟨t199, t200, t201, t202⟩, A60, H⟩ := H
      replace H : (if (((rd_T30 l0 x3_1).f0) == t199 && (((rd_T30 l0 x3_1).f1) == t200 && (((rd_T30 l0 x3_1).f2) == t201 && (((rd_T30 l0 x3_1).f3) == t202)))) = true then (some false) else (spec_l12Vals.l0 k1 l0 (wrap64 (x3_1 + 1)))) = some r := H
      have A6 := Aside0.mk A60
      clear A60
      by_cases c7 : (((rd_T30 l0 x3_1).f0) == t199 && (((rd_T30 l0 x3_1).f1) == t200 && (((rd_T30 l0 x3_1).f2) == t201 && (((rd_T30 l0 x3_1).f3) == t202)))) = true
      ·rw [if_pos c7] at H
       have c7b0 : (((rd_T30 l0 x3_1).f0) == t199 && (((rd_T30 l0 x3_1).f1) == t200 && (((rd_T30 l0 x3_1).f2) == t201 && (((rd_T30 l0 x3_1).f3) == t202)))) = true := c7
       (try (have c7b1 : decide (((rd_T30 l0 x3_1).f0) = t199 && (((rd_T30 l0 x3_1).f1) == t200 && (((rd_T30 l0 x3_1).f2) == t201 && (((rd_T30 l0 x3_1).f3) == t202)))) = true := by simpa using c7))
       (try (have c7b2 : (((rd_T30 l0 x3_1).f0) == t199 && (((rd_T30 l0 x3_1).f1) == t200 && (((rd_T30 l0 x3_1).f2) == t201 && (((rd_T30 l0 x3_1).f3) == t202)))) = true := by simpa using c7))
       clear c7
       obtain rfl := Option.some.inj H
       try go_wp2
       replace HB := Aside0.mk (below_drew1 HB.out)
       have p196 : 0 ≤ (x3_1 : Int) := of_decide_eq_true (by first | (with_reducible assumption) | assumption)
       have q196 : x3_1 < (l0.length : Int) := of_decide_eq_true (by first | (with_reducible assumption) | assumption)
       obtain ⟨ad196, e196, hx196_0, hx196_1, hx196_2, hx196_3⟩ := at_T30 HR0.out x3_1 p196 q196
       have hw196_3 := hx196_3
       have hw196_2 := hx196_2
       have hw196_1 := hx196_1
       have hw196_0 := hx196_0
       cases e196
       replace hx196_0 := (HB.out.cell (World.block_lt_of_cell? w _ hx196_0)).trans hx196_0
       replace hx196_1 := (HB.out.cell (World.block_lt_of_cell? w _ hx196_1)).trans hx196_1
       replace hx196_2 := (HB.out.cell (World.block_lt_of_cell? w _ hx196_2)).trans hx196_2
       replace hx196_3 := (HB.out.cell (World.block_lt_of_cell? w _ hx196_3)).trans hx196_3
       replace p196 := eq_true p196
       replace q196 := eq_true q196
       have p198 : 0 ≤ (x3_1 : Int) := of_decide_eq_true (by first | (with_reducible assumption) | assumption)
       have q198 : x3_1 < (l0.length : Int) := of_decide_eq_true (by first | (with_reducible assumption) | assumption)
       obtain ⟨ad198, e198, hx198_0, hx198_1, hx198_2, hx198_3⟩ := at_T30 HR0.out x3_1 p198 q198
       have hw198_3 := hx198_3
       have hw198_2 := hx198_2
       have hw198_1 := hx198_1
       have hw198_0 := hx198_0
       obtain rfl : ad196 = ad198 := (by injection e198)
       replace hx198_0 := (HB.out.cell (World.block_lt_of_cell? w _ hx198_0)).trans hx198_0
       replace hx198_1 := (HB.out.cell (World.block_lt_of_cell? w _ hx198_1)).trans hx198_1
       replace hx198_2 := (HB.out.cell (World.block_lt_of_cell? w _ hx198_2)).trans hx198_2
       replace hx198_3 := (HB.out.cell (World.block_lt_of_cell? w _ hx198_3)).trans hx198_3
       replace p198 := eq_true p198
       replace q198 := eq_true q198
       refine start_ (n := 14) (S := fun w' => w'.cell? (ad196.add ((x3_1).toNat * 4)) = some (.int .i64 ((rd_T30 l0 x3_1).f0)) ∧ w'.cell? ⟨(ad196.add ((x3_1).toNat * 4)).block, (ad196.add ((x3_1).toNat * 4)).off + 1, none⟩ = some (.int .i64 ((rd_T30 l0 x3_1).f1)) ∧ w'.cell? ⟨(ad196.add ((x3_1).toNat * 4)).block, (ad196.add ((x3_1).toNat * 4)).off + 2, none⟩ = some (.int .i64 ((rd_T30 l0 x3_1).f2)) ∧ w'.cell? ⟨(ad196.add ((x3_1).toNat * 4)).block, (ad196.add ((x3_1).toNat * 4)).off + 3, none⟩ = some (.int .i64 ((rd_T30 l0 x3_1).f3)) ∧ w'.cell? (ad196.add ((x3_1).toNat * 4)) = some (.int .i64 ((rd_T30 l0 x3_1).f0)) ∧ w'.cell? ⟨(ad196.add ((x3_1).toNat * 4)).block, (ad196.add ((x3_1).toNat * 4)).off + 1, none⟩ = some (.int .i64 ((rd_T30 l0 x3_1).f1)) ∧ w'.cell? ⟨(ad196.add ((x3_1).toNat * 4)).block, (ad196.add ((x3_1).toNat * 4)).off + 2, none⟩ = some (.int .i64 ((rd_T30 l0 x3_1).f2)) ∧ w'.cell? ⟨(ad196.add ((x3_1).toNat * 4)).block, (ad196.add ((x3_1).toNat * 4)).off + 3, none⟩ = some (.int .i64 ((rd_T30 l0 x3_1).f3))) (ds := []) #[false, false, false, false, false, false, false, false, false, false, false, false, false, false] (by kernel_rfl) rfl rfl ⟨((HB.out.cell (World.block_lt_of_cell? w _ hw196_0)).trans hw196_0), ((HB.out.cell (World.block_lt_of_cell? w _ hw196_1)).trans hw196_1), ((HB.out.cell (World.block_lt_of_cell? w _ hw196_2)).trans hw196_2), ((HB.out.cell (World.block_lt_of_cell? w _ hw196_3)).trans hw196_3), ((HB.out.cell (World.block_lt_of_cell? w _ hw198_0)).trans hw198_0), ((HB.out.cell (World.block_lt_of_cell? w _ hw198_1)).trans hw198_1), ((HB.out.cell (World.block_lt_of_cell? w _ hw198_2)).trans hw198_2), ((HB.out.cell (World.block_lt_of_cell? w _ hw198_3)).trans hw198_3)⟩ (fun hHeld => ?_); refine with_tabW spec_l12Vals.tab4 spec_l12Vals.bits4 (fun HT_ HW_ => ?_)
       generalize wr.drew = w8 at HB hx196_0 hx196_1 hx196_2 hx196_3 hx198_0 hx198_1 hx198_2 hx198_3 hHeld ⊢
       refine sqp HT_ 0 10 ?_
       refine sqp HT_ 1 11 ?_
       refine sqp HT_ 2 12 ?_
       refine sqw HT_ HW_ 3 13 hHeld ?_
       refine sqo HT_ 4 14 (fun K hK => ?_)
       refine sqG Try.func80 #[.agg #[.int .i64 ((rd_T30 l0 x3_1).f0), .int .i64 ((rd_T30 l0 x3_1).f1), .int .i64 ((rd_T30 l0 x3_1).f2), .int .i64 ((rd_T30 l0 x3_1).f3)]] ?_
       with_reducible refine (spec_ValOk.calls k1 ((rd_T30 l0 x3_1).f0) ((rd_T30 l0 x3_1).f1) ((rd_T30 l0 x3_1).f2) ((rd_T30 l0 x3_1).f3) true _ A4.out).mono ?_
       rintro e w9 ⟨rfl, hb⟩
       refine ⟨_, rfl, ?_⟩
       replace HB := sqs HB hb
       (try clear hb)
       refine hK.out _ _ ⟨((HB.out.cell (World.block_lt_of_cell? w _ hw196_0)).trans hw196_0), ((HB.out.cell (World.block_lt_of_cell? w _ hw196_1)).trans hw196_1), ((HB.out.cell (World.block_lt_of_cell? w _ hw196_2)).trans hw196_2), ((HB.out.cell (World.block_lt_of_cell? w _ hw196_3)).trans hw196_3), ((HB.out.cell (World.block_lt_of_cell? w _ hw198_0)).trans hw198_0), ((HB.out.cell (World.block_lt_of_cell? w _ hw198_1)).trans hw198_1), ((HB.out.cell (World.block_lt_of_cell? w _ hw198_2)).trans hw198_2), ((HB.out.cell (World.block_lt_of_cell? w _ hw198_3)).trans hw198_3)⟩ (fun hHeld => ?_)
       clear hK K
       refine sqnm ?_
       refine sqp HT_ 5 15 ?_
       refine sqp HT_ 6 16 ?_
       refine sqp HT_ 7 17 ?_
       refine sqp HT_ 8 18 ?_
       refine sqp HT_ 9 19 ?_
       refine sqw HT_ HW_ 10 20 hHeld ?_
       refine sqo HT_ 11 21 (fun K hK => ?_)
       refine sqG Try.func100 #[] ?_
       with_reducible refine (spec_l10None.calls  t199 t200 t201 t202 _ A6.out).mono ?_
       rintro e w10 ⟨rfl, hb⟩
       refine ⟨_, rfl, ?_⟩
       replace HB := sqs HB hb
       (try clear hb)
       refine hK.out _ _ ⟨((HB.out.cell (World.block_lt_of_cell? w _ hw196_0)).trans hw196_0), ((HB.out.cell (World.block_lt_of_cell? w _ hw196_1)).trans hw196_1), ((HB.out.cell (World.block_lt_of_cell? w _ hw196_2)).trans hw196_2), ((HB.out.cell (World.block_lt_of_cell? w _ hw196_3)).trans hw196_3), ((HB.out.cell (World.block_lt_of_cell? w _ hw198_0)).trans hw198_0), ((HB.out.cell (World.block_lt_of_cell? w _ hw198_1)).trans hw198_1), ((HB.out.cell (World.block_lt_of_cell? w _ hw198_2)).trans hw198_2), ((HB.out.cell (World.block_lt_of_cell? w _ hw198_3)).trans hw198_3)⟩ (fun hHeld => ?_)
       clear hK K
       refine sqnm ?_
       refine sqp HT_ 12 22 ?_
       refine sqp HT_ 13 23 ?_
       refine done_ (done_of HT_.out (by kernel_rfl)) ?_
       try go_wp2
       go_ret
       exact sqe HB
      ·rw [if_neg c7] at H
       have c7b0 : (((rd_T30 l0 x3_1).f0) == t199 && (((rd_T30 l0 x3_1).f1) == t200 && (((rd_T30 l0 x3_1).f2) == t201 && (((rd_T30 l0 x3_1).f3) == t202)))) = false := by simpa using c7
       (try (have c7b1 : decide (((rd_T30 l0 x3_1).f0) = t199 && (((rd_T30 l0 x3_1).f1) == t200 && (((rd_T30 l0 x3_1).f2) == t201 && (((rd_T30 l0 x3_1).f3) == t202)))) = false := by simpa using c7))
       (try (have c7b2 : (((rd_T30 l0 x3_1).f0) == t199 && (((rd_T30 l0 x3_1).f1) == t200 && (((rd_T30 l0 x3_1).f2) == t201 && (((rd_T30 l0 x3_1).f3) == t202)))) = false := by simpa using c7))
       (try (have c7b3 : ¬ (((rd_T30 l0 x3_1).f0) = t199 && (((rd_T30 l0 x3_1).f1) == t200 && (((rd_T30 l0 x3_1).f2) == t201 && (((rd_T30 l0 x3_1).f3) == t202)))) := by simpa using c7))
       clear c7
       have H' := Aside0.mk H
       clear H
       try go_wp2
       replace HB := Aside0.mk (below_drew1 HB.out)
       have p196 : 0 ≤ (x3_1 : Int) := of_decide_eq_true (by first | (with_reducible assumption) | assumption)
       have q196 : x3_1 < (l0.length : Int) := of_decide_eq_true (by first | (with_reducible assumption) | assumption)
       obtain ⟨ad196, e196, hx196_0, hx196_1, hx196_2, hx196_3⟩ := at_T30 HR0.out x3_1 p196 q196
       have hw196_3 := hx196_3
       have hw196_2 := hx196_2
       have hw196_1 := hx196_1
       have hw196_0 := hx196_0
       cases e196
       replace hx196_0 := (HB.out.cell (World.block_lt_of_cell? w _ hx196_0)).trans hx196_0
       replace hx196_1 := (HB.out.cell (World.block_lt_of_cell? w _ hx196_1)).trans hx196_1
       replace hx196_2 := (HB.out.cell (World.block_lt_of_cell? w _ hx196_2)).trans hx196_2
       replace hx196_3 := (HB.out.cell (World.block_lt_of_cell? w _ hx196_3)).trans hx196_3
       replace p196 := eq_true p196
       replace q196 := eq_true q196
       have p198 : 0 ≤ (x3_1 : Int) := of_decide_eq_true (by first | (with_reducible assumption) | assumption)
       have q198 : x3_1 < (l0.length : Int) := of_decide_eq_true (by first | (with_reducible assumption) | assumption)
       obtain ⟨ad198, e198, hx198_0, hx198_1, hx198_2, hx198_3⟩ := at_T30 HR0.out x3_1 p198 q198
       have hw198_3 := hx198_3
       have hw198_2 := hx198_2
       have hw198_1 := hx198_1
       have hw198_0 := hx198_0
       obtain rfl : ad196 = ad198 := (by injection e198)
       replace hx198_0 := (HB.out.cell (World.block_lt_of_cell? w _ hx198_0)).trans hx198_0
       replace hx198_1 := (HB.out.cell (World.block_lt_of_cell? w _ hx198_1)).trans hx198_1
       replace hx198_2 := (HB.out.cell (World.block_lt_of_cell? w _ hx198_2)).trans hx198_2
       replace hx198_3 := (HB.out.cell (World.block_lt_of_cell? w _ hx198_3)).trans hx198_3
       replace p198 := eq_true p198
       replace q198 := eq_true q198
       refine start_ (n := 14) (S := fun w' => w'.cell? (ad196.add ((x3_1).toNat * 4)) = some (.int .i64 ((rd_T30 l0 x3_1).f0)) ∧ w'.cell? ⟨(ad196.add ((x3_1).toNat * 4)).block, (ad196.add ((x3_1).toNat * 4)).off + 1, none⟩ = some (.int .i64 ((rd_T30 l0 x3_1).f1)) ∧ w'.cell? ⟨(ad196.add ((x3_1).toNat * 4)).block, (ad196.add ((x3_1).toNat * 4)).off + 2, none⟩ = some (.int .i64 ((rd_T30 l0 x3_1).f2)) ∧ w'.cell? ⟨(ad196.add ((x3_1).toNat * 4)).block, (ad196.add ((x3_1).toNat * 4)).off + 3, none⟩ = some (.int .i64 ((rd_T30 l0 x3_1).f3)) ∧ w'.cell? (ad196.add ((x3_1).toNat * 4)) = some (.int .i64 ((rd_T30 l0 x3_1).f0)) ∧ w'.cell? ⟨(ad196.add ((x3_1).toNat * 4)).block, (ad196.add ((x3_1).toNat * 4)).off + 1, none⟩ = some (.int .i64 ((rd_T30 l0 x3_1).f1)) ∧ w'.cell? ⟨(ad196.add ((x3_1).toNat * 4)).block, (ad196.add ((x3_1).toNat * 4)).off + 2, none⟩ = some (.int .i64 ((rd_T30 l0 x3_1).f2)) ∧ w'.cell? ⟨(ad196.add ((x3_1).toNat * 4)).block, (ad196.add ((x3_1).toNat * 4)).off + 3, none⟩ = some (.int .i64 ((rd_T30 l0 x3_1).f3))) (ds := []) #[false, false, false, false, false, false, false, false, false, false, false, false, false, false] (by kernel_rfl) rfl rfl ⟨((HB.out.cell (World.block_lt_of_cell? w _ hw196_0)).trans hw196_0), ((HB.out.cell (World.block_lt_of_cell? w _ hw196_1)).trans hw196_1), ((HB.out.cell (World.block_lt_of_cell? w _ hw196_2)).trans hw196_2), ((HB.out.cell (World.block_lt_of_cell? w _ hw196_3)).trans hw196_3), ((HB.out.cell (World.block_lt_of_cell? w _ hw198_0)).trans hw198_0), ((HB.out.cell (World.block_lt_of_cell? w _ hw198_1)).trans hw198_1), ((HB.out.cell (World.block_lt_of_cell? w _ hw198_2)).trans hw198_2), ((HB.out.cell (World.block_lt_of_cell? w _ hw198_3)).trans hw198_3)⟩ (fun hHeld => ?_); refine with_tabW spec_l12Vals.tab4 spec_l12Vals.bits4 (fun HT_ HW_ => ?_)
       generalize wr.drew = w11 at HB hx196_0 hx196_1 hx196_2 hx196_3 hx198_0 hx198_1 hx198_2 hx198_3 hHeld ⊢
       refine sqp HT_ 0 10 ?_
       refine sqp HT_ 1 11 ?_
       refine sqp HT_ 2 12 ?_
       refine sqw HT_ HW_ 3 13 hHeld ?_
       refine sqo HT_ 4 14 (fun K hK => ?_)
       refine sqG Try.func80 #[.agg #[.int .i64 ((rd_T30 l0 x3_1).f0), .int .i64 ((rd_T30 l0 x3_1).f1), .int .i64 ((rd_T30 l0 x3_1).f2), .int .i64 ((rd_T30 l0 x3_1).f3)]] ?_
       with_reducible refine (spec_ValOk.calls k1 ((rd_T30 l0 x3_1).f0) ((rd_T30 l0 x3_1).f1) ((rd_T30 l0 x3_1).f2) ((rd_T30 l0 x3_1).f3) true _ A4.out).mono ?_
       rintro e w12 ⟨rfl, hb⟩
       refine ⟨_, rfl, ?_⟩
       replace HB := sqs HB hb
       (try clear hb)
       refine hK.out _ _ ⟨((HB.out.cell (World.block_lt_of_cell? w _ hw196_0)).trans hw196_0), ((HB.out.cell (World.block_lt_of_cell? w _ hw196_1)).trans hw196_1), ((HB.out.cell (World.block_lt_of_cell? w _ hw196_2)).trans hw196_2), ((HB.out.cell (World.block_lt_of_cell? w _ hw196_3)).trans hw196_3), ((HB.out.cell (World.block_lt_of_cell? w _ hw198_0)).trans hw198_0), ((HB.out.cell (World.block_lt_of_cell? w _ hw198_1)).trans hw198_1), ((HB.out.cell (World.block_lt_of_cell? w _ hw198_2)).trans hw198_2), ((HB.out.cell (World.block_lt_of_cell? w _ hw198_3)).trans hw198_3)⟩ (fun hHeld => ?_)
       clear hK K
       refine sqnm ?_
       refine sqp HT_ 5 15 ?_
       refine sqp HT_ 6 16 ?_
       refine sqp HT_ 7 17 ?_
       refine sqp HT_ 8 18 ?_
       refine sqp HT_ 9 19 ?_
       refine sqw HT_ HW_ 10 20 hHeld ?_
       refine sqo HT_ 11 21 (fun K hK => ?_)
       refine sqG Try.func100 #[] ?_
       with_reducible refine (spec_l10None.calls  t199 t200 t201 t202 _ A6.out).mono ?_
       rintro e w13 ⟨rfl, hb⟩
       refine ⟨_, rfl, ?_⟩
       replace HB := sqs HB hb
       (try clear hb)
       refine hK.out _ _ ⟨((HB.out.cell (World.block_lt_of_cell? w _ hw196_0)).trans hw196_0), ((HB.out.cell (World.block_lt_of_cell? w _ hw196_1)).trans hw196_1), ((HB.out.cell (World.block_lt_of_cell? w _ hw196_2)).trans hw196_2), ((HB.out.cell (World.block_lt_of_cell? w _ hw196_3)).trans hw196_3), ((HB.out.cell (World.block_lt_of_cell? w _ hw198_0)).trans hw198_0), ((HB.out.cell (World.block_lt_of_cell? w _ hw198_1)).trans hw198_1), ((HB.out.cell (World.block_lt_of_cell? w _ hw198_2)).trans hw198_2), ((HB.out.cell (World.block_lt_of_cell? w _ hw198_3)).trans hw198_3)⟩ (fun hHeld => ?_)
       clear hK K
       refine sqnm ?_
       refine sqp HT_ 12 22 ?_
       refine sqp HT_ 13 23 ?_
       refine done_ (done_of HT_.out (by kernel_rfl)) ?_
       try go_wp2
       go_roundg k1
       case measure => have := HK1.out; omega
       case rel => exact ⟨(wrap64 (x3_1 + 1)), (by first | rfl | (simp; done) | (simp [*]; done)), H', ⟨by have := HK1.out; omega⟩, sqh HB⟩
     ·replace c5 := Bool.eq_false_iff.mpr c5
      subst c5
      have H1 : (some false) = some r := by rw [if_neg (show ¬ (false = true) by decide)] at H; exact H
      clear H
      have H := H1
      clear H1
      obtain rfl := Option.some.inj H
      try go_wp2
      replace HB := Aside0.mk (below_drew1 HB.out)
      have p196 : 0 ≤ (x3_1 : Int) := of_decide_eq_true (by first | (with_reducible assumption) | assumption)
      have q196 : x3_1 < (l0.length : Int) := of_decide_eq_true (by first | (with_reducible assumption) | assumption)
      obtain ⟨ad196, e196, hx196_0, hx196_1, hx196_2, hx196_3⟩ := at_T30 HR0.out x3_1 p196 q196
      have hw196_3 := hx196_3
      have hw196_2 := hx196_2
      have hw196_1 := hx196_1
      have hw196_0 := hx196_0
      cases e196
      replace hx196_0 := (HB.out.cell (World.block_lt_of_cell? w _ hx196_0)).trans hx196_0
      replace hx196_1 := (HB.out.cell (World.block_lt_of_cell? w _ hx196_1)).trans hx196_1
      replace hx196_2 := (HB.out.cell (World.block_lt_of_cell? w _ hx196_2)).trans hx196_2
      replace hx196_3 := (HB.out.cell (World.block_lt_of_cell? w _ hx196_3)).trans hx196_3
      replace p196 := eq_true p196
      replace q196 := eq_true q196
      refine start_ (n := 14) (S := fun w' => w'.cell? (ad196.add ((x3_1).toNat * 4)) = some (.int .i64 ((rd_T30 l0 x3_1).f0)) ∧ w'.cell? ⟨(ad196.add ((x3_1).toNat * 4)).block, (ad196.add ((x3_1).toNat * 4)).off + 1, none⟩ = some (.int .i64 ((rd_T30 l0 x3_1).f1)) ∧ w'.cell? ⟨(ad196.add ((x3_1).toNat * 4)).block, (ad196.add ((x3_1).toNat * 4)).off + 2, none⟩ = some (.int .i64 ((rd_T30 l0 x3_1).f2)) ∧ w'.cell? ⟨(ad196.add ((x3_1).toNat * 4)).block, (ad196.add ((x3_1).toNat * 4)).off + 3, none⟩ = some (.int .i64 ((rd_T30 l0 x3_1).f3))) (ds := []) #[false, false, false, false, false, false, false, false, false, false, false, false, false, false] (by kernel_rfl) rfl rfl ⟨((HB.out.cell (World.block_lt_of_cell? w _ hw196_0)).trans hw196_0), ((HB.out.cell (World.block_lt_of_cell? w _ hw196_1)).trans hw196_1), ((HB.out.cell (World.block_lt_of_cell? w _ hw196_2)).trans hw196_2), ((HB.out.cell (World.block_lt_of_cell? w _ hw196_3)).trans hw196_3)⟩ (fun hHeld => ?_); refine with_tabW spec_l12Vals.tab4 spec_l12Vals.bits4 (fun HT_ HW_ => ?_)
      generalize wr.drew = w14 at HB hx196_0 hx196_1 hx196_2 hx196_3 hHeld ⊢
      refine sqp HT_ 0 10 ?_
      refine sqp HT_ 1 11 ?_
      refine sqp HT_ 2 12 ?_
      refine sqw HT_ HW_ 3 13 hHeld ?_
      refine sqo HT_ 4 14 (fun K hK => ?_)
      refine sqG Try.func80 #[.agg #[.int .i64 ((rd_T30 l0 x3_1).f0), .int .i64 ((rd_T30 l0 x3_1).f1), .int .i64 ((rd_T30 l0 x3_1).f2), .int .i64 ((rd_T30 l0 x3_1).f3)]] ?_
      with_reducible refine (spec_ValOk.calls k1 ((rd_T30 l0 x3_1).f0) ((rd_T30 l0 x3_1).f1) ((rd_T30 l0 x3_1).f2) ((rd_T30 l0 x3_1).f3) false _ A4.out).mono ?_
      rintro e w15 ⟨rfl, hb⟩
      refine ⟨_, rfl, ?_⟩
      replace HB := sqs HB hb
      (try clear hb)
      refine hK.out _ _ ⟨((HB.out.cell (World.block_lt_of_cell? w _ hw196_0)).trans hw196_0), ((HB.out.cell (World.block_lt_of_cell? w _ hw196_1)).trans hw196_1), ((HB.out.cell (World.block_lt_of_cell? w _ hw196_2)).trans hw196_2), ((HB.out.cell (World.block_lt_of_cell? w _ hw196_3)).trans hw196_3)⟩ (fun hHeld => ?_)
      clear hK K
      refine sqnm ?_
      refine sqp HT_ 5 15 ?_
      refine sqp HT_ 6 16 ?_
      refine sqpu HT_ 7 17 ?_
      refine sqpu HT_ 8 18 ?_
      refine sqpu HT_ 9 19 ?_
      refine sqpu HT_ 10 20 ?_
      refine sqpu HT_ 11 21 ?_
      refine sqpu HT_ 12 22 ?_
      refine sqp HT_ 13 23 ?_
      refine done_ (done_of HT_.out (by kernel_rfl)) ?_
      try go_wp2
      go_ret
      exact sqe HB
    ·rw [if_neg c3] at H
     exact absurd H (by simp)
   ·rw [if_neg c2] at H
    have c2b0 : decide (x3_1 < (l0.length : Int)) = false := decide_eq_false c2
    clear c2
    obtain rfl := Option.some.inj H
    go_wp2
    go_ret
    exact sqe HB

end Go.Proofs.Ytkekcenlleebeaa.PFnExactAbsOk
