/- Functions of the program as plain Lean functions, and that calls of them come to what these tell. Conditions: those in each law. -/
import Derived.Test.YtkekcenlleebeaaSq
import Derived.Test.YtkekcenlleebeaaDFnExactAbsOk
import Derived.Test.YtkekcenlleebeaaQFnExactAbsOkx0
import Derived.Test.YtkekcenlleebeaaQFnExactAbsOkx17
namespace Go.Proofs.Ytkekcenlleebeaa.PFnExactAbsOk
open Go.RowKit Go.Proofs.Ytkekcenlleebeaa.Sq Go.Proofs.YtkekcenlleebeaaW.PrintWords Go.Proofs.YtkekcenlleebeaaW.PrintLast Go.Proofs.YtkekcenlleebeaaW.PrintMore
attribute [local go_sem] max2_int min2_int max_two min_two max_three min_three max_four min_four   -- for this text's walks alone
set_option linter.unusedVariables false
set_option linter.unusedSimpArgs false

/-! ### laws_eqRefValS: function 147 -/
theorem laws_eqRefValS.mono_l : ∀ k, (∀ y0 y1 y2, LeO (laws_eqRefValS.l0 k y0 y1 y2) (laws_eqRefValS.l0 (k + 1) y0 y1 y2))
 | 0 => fun _ _ _ r h => by simp [laws_eqRefValS.l0] at h
 | k + 1 => by
  have ih0 := laws_eqRefValS.mono_l k
  ·intro y0 y1 y2
   unfold laws_eqRefValS.l0
   repeat' first
   | (with_reducible exact ih0 _ _ _)
   | (with_reducible exact laws_eqRefVal.mono _ _ _ _ _ _ _ _ _ _ _ _ _)
   | (with_reducible exact LeO.refl _)
   | (with_reducible exact LeO.none _)
   | (with_reducible refine LeO.ite ?_ ?_)
   | (with_reducible refine LeO.bind ?_ (fun _ => ?_))
   | exact ih0 _ _ _
   | exact laws_eqRefVal.mono _ _ _ _ _ _ _ _ _ _ _ _ _
   | exact LeO.none _
   | refine LeO.ite ?_ ?_
   | refine LeO.bind ?_ (fun _ => ?_)
theorem laws_eqRefValS.mono : ∀ a0 a1 k, LeO (laws_eqRefValS.f k a0 a1) (laws_eqRefValS.f (k + 1) a0 a1) := by
 intro a0 a1 k
 have ih0 := laws_eqRefValS.mono_l k
 unfold laws_eqRefValS.f
 repeat' first
   | (with_reducible exact ih0 _ _ _)
   | (with_reducible exact laws_eqRefVal.mono _ _ _ _ _ _ _ _ _ _ _ _ _)
   | (with_reducible exact LeO.refl _)
   | (with_reducible exact LeO.none _)
   | (with_reducible refine LeO.ite ?_ ?_)
   | (with_reducible refine LeO.bind ?_ (fun _ => ?_))
   | exact ih0 _ _ _
   | exact laws_eqRefVal.mono _ _ _ _ _ _ _ _ _ _ _ _ _
   | exact LeO.none _
   | refine LeO.ite ?_ ?_
   | refine LeO.bind ?_ (fun _ => ?_)
def laws_eqRefValS.T6 : Bool × List (List Nat × List Nat) := (true, [([], []), ([], []), ([0, 1], [0, 1]), ([2], [2]), ([], []), ([], []), ([4, 5], [4, 5]), ([6], [6]), ([3, 7], [3, 7]), ([8], [8])])
def laws_eqRefValS.B6 : List Nat := [0, 0, 3, 7, 0, 0, 48, 112, 255, 511]
theorem laws_eqRefValS.tab6 : rtab .any (opsOf Try.f147 6) = laws_eqRefValS.T6 := by kernel_rfl
theorem laws_eqRefValS.bits6 : waitsOk laws_eqRefValS.T6.2 laws_eqRefValS.B6 = true := by kernel_rfl
set_option maxHeartbeats 8000000 in
set_option maxRecDepth 100000 in
theorem laws_eqRefValS.calls (k : Nat) (A0 : Option Addr) (c0 : Nat) (l0 : List (S132)) (A1 : Option Addr) (c1 : Nat) (l1 : List (S132)) (r : Bool) (w : World) (hr0 : Kd.C k132 w A0 l0.length l0) (hc0 : l0.length ≤ c0) (hr1 : Kd.C k132 w A1 l1.length l1) (hc1 : l1.length ≤ c1) (h : laws_eqRefValS.f k l0 l1 = some r) :
  Calls Try.prog 147 #[.slice A0 l0.length c0, .slice A1 l1.length c1] w fun e w' => e = .returned (.bool r) ∧ Below w.heap.size w w' := by
 have hu132 := Try.underlying132
 have HR0 := Aside0.mk hr0
 have HC0 := Aside0.mk hc0
 clear hr0 hc0
 have HR1 := Aside0.mk hr1
 have HC1 := Aside0.mk hc1
 clear hr1 hc1
 have HB := Aside0.mk (Below.refl w.heap.size w)
 have H : (if (l0.length : Int) = (l1.length : Int) then (laws_eqRefValS.l0 k l0 l1 0) else (some false)) = some r := h
 clear h
 by_cases c3 : (l0.length : Int) = (l1.length : Int)
 ·rw [if_pos c3] at H
  have c3b0 : ((l0.length : Int) == (l1.length : Int)) = true := beq_iff_eq.mpr c3
  have c3b1 : ((l0.length : Int) != (l1.length : Int)) = false := bne_eq_false_iff_eq.mpr c3
  have c3b2 : (l0.length == l1.length) = true := by first | simpa using c3 | (simp at c3 ⊢; omega)
  clear c3
  have H' := Aside0.mk H
  clear H
  go_enter Try.func147, Try.ntmps147
  go_wp2
  go_loopg [5] k (fun kq v5 w' => ∃ (x5_1 : Int), v5 = .int .i64 x5_1 ∧ Aside0 (laws_eqRefValS.l0 kq l0 l1 x5_1 = some r) ∧ Aside0 (kq ≤ k) ∧ Aside0 (Below w.heap.size w w'))
  case atStart => exact ⟨(0), (by first | rfl | (simp; done) | (simp [*]; done)), H', ⟨Nat.le_refl _⟩, sqh HB⟩
  case round =>
   clear H'
   try clear c1
   try clear p2
   try clear c3
   try clear c3b0
   try clear c3b1
   try clear c3b2
   obtain ⟨x5_1, rfl, HA, HK1, HB⟩ := hrel
   cases gk with
   | zero => exact absurd HA.out (by simp [laws_eqRefValS.l0])
   | succ k1 =>
    have H := HA.out
    clear HA
    simp only [laws_eqRefValS.l0] at H
    by_cases c4 : x5_1 < (l0.length : Int)
    ·rw [if_pos c4] at H
     have c4b0 : decide (x5_1 < (l0.length : Int)) = true := decide_eq_true c4
     clear c4
     by_cases c5 : 0 ≤ x5_1
     ·rw [if_pos c5] at H
      have c5b0 : decide (0 ≤ x5_1) = true := decide_eq_true c5
      clear c5
      by_cases c6 : x5_1 < (l1.length : Int)
      ·rw [if_pos c6] at H
       have c6b0 : decide (x5_1 < (l1.length : Int)) = true := decide_eq_true c6
       clear c6
       replace H := Option.bind_eq_some_iff.mp H
       obtain ⟨t366, A70, H⟩ := H
       replace H : (if t366 = true then (laws_eqRefValS.l0 k1 l0 l1 (wrap64 (x5_1 + 1))) else (some false)) = some r := H
       have A7 := Aside0.mk A70
       clear A70
       by_cases c8 : t366 = true
       ·subst c8
        have H1 : (laws_eqRefValS.l0 k1 l0 l1 (wrap64 (x5_1 + 1))) = some r := by rw [if_pos rfl] at H; exact H
        clear H
        have H := H1
        clear H1
        have H' := Aside0.mk H
        clear H
        try go_wp2
        replace HB := Aside0.mk (below_drew1 HB.out)
        have p364 : 0 ≤ (x5_1 : Int) := of_decide_eq_true (by first | (with_reducible assumption) | assumption)
        have q364 : x5_1 < (l0.length : Int) := of_decide_eq_true (by first | (with_reducible assumption) | assumption)
        obtain ⟨ad364, A364_1, c364_1, e364, hx364_0, hx364_1, hx364_2, hx364_3, hx364_4, hx364_5, hl364_1, hi364_1⟩ := at_T132 HR0.out x5_1 p364 q364
        have hw364_5 := hx364_5
        have hw364_4 := hx364_4
        have hw364_3 := hx364_3
        have hw364_2 := hx364_2
        have hw364_1 := hx364_1
        have hw364_0 := hx364_0
        cases e364
        replace hx364_0 := (HB.out.cell (World.block_lt_of_cell? w _ hx364_0)).trans hx364_0
        replace hx364_1 := (HB.out.cell (World.block_lt_of_cell? w _ hx364_1)).trans hx364_1
        replace hx364_2 := (HB.out.cell (World.block_lt_of_cell? w _ hx364_2)).trans hx364_2
        replace hx364_3 := (HB.out.cell (World.block_lt_of_cell? w _ hx364_3)).trans hx364_3
        replace hx364_4 := (HB.out.cell (World.block_lt_of_cell? w _ hx364_4)).trans hx364_4
        replace hx364_5 := (HB.out.cell (World.block_lt_of_cell? w _ hx364_5)).trans hx364_5
        have HR364_1 := Aside0.mk hi364_1
        have HC364_1 := Aside0.mk hl364_1
        clear hi364_1 hl364_1
        replace p364 := eq_true p364
        replace q364 := eq_true q364
        have p365 : 0 ≤ (x5_1 : Int) := of_decide_eq_true (by first | (with_reducible assumption) | assumption)
        have q365 : x5_1 < (l1.length : Int) := of_decide_eq_true (by first | (with_reducible assumption) | assumption)
        obtain ⟨ad365, A365_1, c365_1, e365, hx365_0, hx365_1, hx365_2, hx365_3, hx365_4, hx365_5, hl365_1, hi365_1⟩ := at_T132 HR1.out x5_1 p365 q365
        have hw365_5 := hx365_5
        have hw365_4 := hx365_4
        have hw365_3 := hx365_3
        have hw365_2 := hx365_2
        have hw365_1 := hx365_1
        have hw365_0 := hx365_0
        cases e365
        replace hx365_0 := (HB.out.cell (World.block_lt_of_cell? w _ hx365_0)).trans hx365_0
        replace hx365_1 := (HB.out.cell (World.block_lt_of_cell? w _ hx365_1)).trans hx365_1
        replace hx365_2 := (HB.out.cell (World.block_lt_of_cell? w _ hx365_2)).trans hx365_2
        replace hx365_3 := (HB.out.cell (World.block_lt_of_cell? w _ hx365_3)).trans hx365_3
        replace hx365_4 := (HB.out.cell (World.block_lt_of_cell? w _ hx365_4)).trans hx365_4
        replace hx365_5 := (HB.out.cell (World.block_lt_of_cell? w _ hx365_5)).trans hx365_5
        have HR365_1 := Aside0.mk hi365_1
        have HC365_1 := Aside0.mk hl365_1
        clear hi365_1 hl365_1
        replace p365 := eq_true p365
        replace q365 := eq_true q365
        refine start_ (n := 10) (S := fun w' => w'.cell? (ad364.add ((x5_1).toNat * 6)) = some (.bool ((rd_T132 l0 x5_1).f0)) ∧ w'.cell? ⟨(ad364.add ((x5_1).toNat * 6)).block, (ad364.add ((x5_1).toNat * 6)).off + 1, none⟩ = some (.slice A364_1 ((rd_T132 l0 x5_1).f1).length c364_1) ∧ w'.cell? ⟨(ad364.add ((x5_1).toNat * 6)).block, (ad364.add ((x5_1).toNat * 6)).off + 2, none⟩ = some (.int .i64 ((rd_T132 l0 x5_1).f2.f0)) ∧ w'.cell? ⟨(ad364.add ((x5_1).toNat * 6)).block, (ad364.add ((x5_1).toNat * 6)).off + 3, none⟩ = some (.int .i64 ((rd_T132 l0 x5_1).f2.f1)) ∧ w'.cell? ⟨(ad364.add ((x5_1).toNat * 6)).block, (ad364.add ((x5_1).toNat * 6)).off + 4, none⟩ = some (.int .i64 ((rd_T132 l0 x5_1).f2.f2)) ∧ w'.cell? ⟨(ad364.add ((x5_1).toNat * 6)).block, (ad364.add ((x5_1).toNat * 6)).off + 5, none⟩ = some (.int .i64 ((rd_T132 l0 x5_1).f2.f3)) ∧ w'.cell? (ad365.add ((x5_1).toNat * 6)) = some (.bool ((rd_T132 l1 x5_1).f0)) ∧ w'.cell? ⟨(ad365.add ((x5_1).toNat * 6)).block, (ad365.add ((x5_1).toNat * 6)).off + 1, none⟩ = some (.slice A365_1 ((rd_T132 l1 x5_1).f1).length c365_1) ∧ w'.cell? ⟨(ad365.add ((x5_1).toNat * 6)).block, (ad365.add ((x5_1).toNat * 6)).off + 2, none⟩ = some (.int .i64 ((rd_T132 l1 x5_1).f2.f0)) ∧ w'.cell? ⟨(ad365.add ((x5_1).toNat * 6)).block, (ad365.add ((x5_1).toNat * 6)).off + 3, none⟩ = some (.int .i64 ((rd_T132 l1 x5_1).f2.f1)) ∧ w'.cell? ⟨(ad365.add ((x5_1).toNat * 6)).block, (ad365.add ((x5_1).toNat * 6)).off + 4, none⟩ = some (.int .i64 ((rd_T132 l1 x5_1).f2.f2)) ∧ w'.cell? ⟨(ad365.add ((x5_1).toNat * 6)).block, (ad365.add ((x5_1).toNat * 6)).off + 5, none⟩ = some (.int .i64 ((rd_T132 l1 x5_1).f2.f3))) (ds := []) #[false, false, false, false, false, false, false, false, false, false] (by kernel_rfl) rfl rfl ⟨((HB.out.cell (World.block_lt_of_cell? w _ hw364_0)).trans hw364_0), ((HB.out.cell (World.block_lt_of_cell? w _ hw364_1)).trans hw364_1), ((HB.out.cell (World.block_lt_of_cell? w _ hw364_2)).trans hw364_2), ((HB.out.cell (World.block_lt_of_cell? w _ hw364_3)).trans hw364_3), ((HB.out.cell (World.block_lt_of_cell? w _ hw364_4)).trans hw364_4), ((HB.out.cell (World.block_lt_of_cell? w _ hw364_5)).trans hw364_5), ((HB.out.cell (World.block_lt_of_cell? w _ hw365_0)).trans hw365_0), ((HB.out.cell (World.block_lt_of_cell? w _ hw365_1)).trans hw365_1), ((HB.out.cell (World.block_lt_of_cell? w _ hw365_2)).trans hw365_2), ((HB.out.cell (World.block_lt_of_cell? w _ hw365_3)).trans hw365_3), ((HB.out.cell (World.block_lt_of_cell? w _ hw365_4)).trans hw365_4), ((HB.out.cell (World.block_lt_of_cell? w _ hw365_5)).trans hw365_5)⟩ (fun hHeld => ?_); refine with_tabW laws_eqRefValS.tab6 laws_eqRefValS.bits6 (fun HT_ HW_ => ?_)
        generalize wr.drew = w9 at HB HR364_1 HR365_1 hx364_0 hx364_1 hx364_2 hx364_3 hx364_4 hx364_5 hx365_0 hx365_1 hx365_2 hx365_3 hx365_4 hx365_5 hHeld ⊢
        refine sqp HT_ 0 17 ?_
        refine sqp HT_ 1 18 ?_
        refine sqp HT_ 2 19 ?_
        refine sqp HT_ 4 21 ?_
        refine sqp HT_ 5 22 ?_
        refine sqp HT_ 6 23 ?_
        refine sqw HT_ HW_ 3 20 hHeld ?_
        refine sqw HT_ HW_ 7 24 hHeld ?_
        refine sqo HT_ 8 25 (fun K hK => ?_)
        refine sqG Try.func204 #[.agg #[.bool ((rd_T132 l0 x5_1).f0), .slice A364_1 ((rd_T132 l0 x5_1).f1).length c364_1, .int .i64 ((rd_T132 l0 x5_1).f2.f0), .int .i64 ((rd_T132 l0 x5_1).f2.f1), .int .i64 ((rd_T132 l0 x5_1).f2.f2), .int .i64 ((rd_T132 l0 x5_1).f2.f3)], .agg #[.bool ((rd_T132 l1 x5_1).f0), .slice A365_1 ((rd_T132 l1 x5_1).f1).length c365_1, .int .i64 ((rd_T132 l1 x5_1).f2.f0), .int .i64 ((rd_T132 l1 x5_1).f2.f1), .int .i64 ((rd_T132 l1 x5_1).f2.f2), .int .i64 ((rd_T132 l1 x5_1).f2.f3)]] ?_
        with_reducible refine (laws_eqRefVal.calls k1 ((rd_T132 l0 x5_1).f0) _ _ ((rd_T132 l0 x5_1).f1) ((rd_T132 l0 x5_1).f2.f0) ((rd_T132 l0 x5_1).f2.f1) ((rd_T132 l0 x5_1).f2.f2) ((rd_T132 l0 x5_1).f2.f3) ((rd_T132 l1 x5_1).f0) _ _ ((rd_T132 l1 x5_1).f1) ((rd_T132 l1 x5_1).f2.f0) ((rd_T132 l1 x5_1).f2.f1) ((rd_T132 l1 x5_1).f2.f2) ((rd_T132 l1 x5_1).f2.f3) true _ ?side1 ?side2 ?side3 ?side4 A7.out).mono ?_
        (case side1 => repeat (first | exact (Kd.C_below HR364_1.out HB.out) | (with_reducible refine Kd.C_alloc ?_ _) | (with_reducible refine Kd.C_drewN ?_ _) | (with_reducible refine Kd.C_drew ?_)))
        (case side2 => exact HC364_1.out)
        (case side3 => repeat (first | exact (Kd.C_below HR365_1.out HB.out) | (with_reducible refine Kd.C_alloc ?_ _) | (with_reducible refine Kd.C_drewN ?_ _) | (with_reducible refine Kd.C_drew ?_)))
        (case side4 => exact HC365_1.out)
        rintro e w10 ⟨rfl, hb⟩
        refine ⟨_, rfl, ?_⟩
        replace HB := sqs HB hb
        (try clear hb)
        refine hK.out _ _ ⟨((HB.out.cell (World.block_lt_of_cell? w _ hw364_0)).trans hw364_0), ((HB.out.cell (World.block_lt_of_cell? w _ hw364_1)).trans hw364_1), ((HB.out.cell (World.block_lt_of_cell? w _ hw364_2)).trans hw364_2), ((HB.out.cell (World.block_lt_of_cell? w _ hw364_3)).trans hw364_3), ((HB.out.cell (World.block_lt_of_cell? w _ hw364_4)).trans hw364_4), ((HB.out.cell (World.block_lt_of_cell? w _ hw364_5)).trans hw364_5), ((HB.out.cell (World.block_lt_of_cell? w _ hw365_0)).trans hw365_0), ((HB.out.cell (World.block_lt_of_cell? w _ hw365_1)).trans hw365_1), ((HB.out.cell (World.block_lt_of_cell? w _ hw365_2)).trans hw365_2), ((HB.out.cell (World.block_lt_of_cell? w _ hw365_3)).trans hw365_3), ((HB.out.cell (World.block_lt_of_cell? w _ hw365_4)).trans hw365_4), ((HB.out.cell (World.block_lt_of_cell? w _ hw365_5)).trans hw365_5)⟩ (fun hHeld => ?_)
        clear hK K
        refine sqnm ?_
        refine sqp HT_ 9 26 ?_
        refine done_ (done_of HT_.out (by kernel_rfl)) ?_
        try go_wp2
        go_roundg k1
        case measure => have := HK1.out; omega
        case rel => exact ⟨(wrap64 (x5_1 + 1)), (by first | rfl | (simp; done) | (simp [*]; done)), H', ⟨by have := HK1.out; omega⟩, sqh HB⟩
       ·replace c8 := Bool.eq_false_iff.mpr c8
        subst c8
        have H1 : (some false) = some r := by rw [if_neg (show ¬ (false = true) by decide)] at H; exact H
        clear H
        have H := H1
        clear H1
        obtain rfl := Option.some.inj H
        try go_wp2
        replace HB := Aside0.mk (below_drew1 HB.out)
        have p364 : 0 ≤ (x5_1 : Int) := of_decide_eq_true (by first | (with_reducible assumption) | assumption)
        have q364 : x5_1 < (l0.length : Int) := of_decide_eq_true (by first | (with_reducible assumption) | assumption)
        obtain ⟨ad364, A364_1, c364_1, e364, hx364_0, hx364_1, hx364_2, hx364_3, hx364_4, hx364_5, hl364_1, hi364_1⟩ := at_T132 HR0.out x5_1 p364 q364
        have hw364_5 := hx364_5
        have hw364_4 := hx364_4
        have hw364_3 := hx364_3
        have hw364_2 := hx364_2
        have hw364_1 := hx364_1
        have hw364_0 := hx364_0
        cases e364
        replace hx364_0 := (HB.out.cell (World.block_lt_of_cell? w _ hx364_0)).trans hx364_0
        replace hx364_1 := (HB.out.cell (World.block_lt_of_cell? w _ hx364_1)).trans hx364_1
        replace hx364_2 := (HB.out.cell (World.block_lt_of_cell? w _ hx364_2)).trans hx364_2
        replace hx364_3 := (HB.out.cell (World.block_lt_of_cell? w _ hx364_3)).trans hx364_3
        replace hx364_4 := (HB.out.cell (World.block_lt_of_cell? w _ hx364_4)).trans hx364_4
        replace hx364_5 := (HB.out.cell (World.block_lt_of_cell? w _ hx364_5)).trans hx364_5
        have HR364_1 := Aside0.mk hi364_1
        have HC364_1 := Aside0.mk hl364_1
        clear hi364_1 hl364_1
        replace p364 := eq_true p364
        replace q364 := eq_true q364
        have p365 : 0 ≤ (x5_1 : Int) := of_decide_eq_true (by first | (with_reducible assumption) | assumption)
        have q365 : x5_1 < (l1.length : Int) := of_decide_eq_true (by first | (with_reducible assumption) | assumption)
        obtain ⟨ad365, A365_1, c365_1, e365, hx365_0, hx365_1, hx365_2, hx365_3, hx365_4, hx365_5, hl365_1, hi365_1⟩ := at_T132 HR1.out x5_1 p365 q365
        have hw365_5 := hx365_5
        have hw365_4 := hx365_4
        have hw365_3 := hx365_3
        have hw365_2 := hx365_2
        have hw365_1 := hx365_1
        have hw365_0 := hx365_0
        cases e365
        replace hx365_0 := (HB.out.cell (World.block_lt_of_cell? w _ hx365_0)).trans hx365_0
        replace hx365_1 := (HB.out.cell (World.block_lt_of_cell? w _ hx365_1)).trans hx365_1
        replace hx365_2 := (HB.out.cell (World.block_lt_of_cell? w _ hx365_2)).trans hx365_2
        replace hx365_3 := (HB.out.cell (World.block_lt_of_cell? w _ hx365_3)).trans hx365_3
        replace hx365_4 := (HB.out.cell (World.block_lt_of_cell? w _ hx365_4)).trans hx365_4
        replace hx365_5 := (HB.out.cell (World.block_lt_of_cell? w _ hx365_5)).trans hx365_5
        have HR365_1 := Aside0.mk hi365_1
        have HC365_1 := Aside0.mk hl365_1
        clear hi365_1 hl365_1
        replace p365 := eq_true p365
        replace q365 := eq_true q365
        refine start_ (n := 10) (S := fun w' => w'.cell? (ad364.add ((x5_1).toNat * 6)) = some (.bool ((rd_T132 l0 x5_1).f0)) ∧ w'.cell? ⟨(ad364.add ((x5_1).toNat * 6)).block, (ad364.add ((x5_1).toNat * 6)).off + 1, none⟩ = some (.slice A364_1 ((rd_T132 l0 x5_1).f1).length c364_1) ∧ w'.cell? ⟨(ad364.add ((x5_1).toNat * 6)).block, (ad364.add ((x5_1).toNat * 6)).off + 2, none⟩ = some (.int .i64 ((rd_T132 l0 x5_1).f2.f0)) ∧ w'.cell? ⟨(ad364.add ((x5_1).toNat * 6)).block, (ad364.add ((x5_1).toNat * 6)).off + 3, none⟩ = some (.int .i64 ((rd_T132 l0 x5_1).f2.f1)) ∧ w'.cell? ⟨(ad364.add ((x5_1).toNat * 6)).block, (ad364.add ((x5_1).toNat * 6)).off + 4, none⟩ = some (.int .i64 ((rd_T132 l0 x5_1).f2.f2)) ∧ w'.cell? ⟨(ad364.add ((x5_1).toNat * 6)).block, (ad364.add ((x5_1).toNat * 6)).off + 5, none⟩ = some (.int .i64 ((rd_T132 l0 x5_1).f2.f3)) ∧ w'.cell? (ad365.add ((x5_1).toNat * 6)) = some (.bool ((rd_T132 l1 x5_1).f0)) ∧ w'.cell? ⟨(ad365.add ((x5_1).toNat * 6)).block, (ad365.add ((x5_1).toNat * 6)).off + 1, none⟩ = some (.slice A365_1 ((rd_T132 l1 x5_1).f1).length c365_1) ∧ w'.cell? ⟨(ad365.add ((x5_1).toNat * 6)).block, (ad365.add ((x5_1).toNat * 6)).off + 2, none⟩ = some (.int .i64 ((rd_T132 l1 x5_1).f2.f0)) ∧ w'.cell? ⟨(ad365.add ((x5_1).toNat * 6)).block, (ad365.add ((x5_1).toNat * 6)).off + 3, none⟩ = some (.int .i64 ((rd_T132 l1 x5_1).f2.f1)) ∧ w'.cell? ⟨(ad365.add ((x5_1).toNat * 6)).block, (ad365.add ((x5_1).toNat * 6)).off + 4, none⟩ = some (.int .i64 ((rd_T132 l1 x5_1).f2.f2)) ∧ w'.cell? ⟨(ad365.add ((x5_1).toNat * 6)).block, (ad365.add ((x5_1).toNat * 6)).off + 5, none⟩ = some (.int .i64 ((rd_T132 l1 x5_1).f2.f3))) (ds := []) #[false, false, false, false, false, false, false, false, false, false] (by kernel_rfl) rfl rfl ⟨((HB.out.cell (World.block_lt_of_cell? w _ hw364_0)).trans hw364_0), ((HB.out.cell (World.block_lt_of_cell? w _ hw364_1)).trans hw364_1), ((HB.out.cell (World.block_lt_of_cell? w _ hw364_2)).trans hw364_2), ((HB.out.cell (World.block_lt_of_cell? w _ hw364_3)).trans hw364_3), ((HB.out.cell (World.block_lt_of_cell? w _ hw364_4)).trans hw364_4), ((HB.out.cell (World.block_lt_of_cell? w _ hw364_5)).trans hw364_5), ((HB.out.cell (World.block_lt_of_cell? w _ hw365_0)).trans hw365_0), ((HB.out.cell (World.block_lt_of_cell? w _ hw365_1)).trans hw365_1), ((HB.out.cell (World.block_lt_of_cell? w _ hw365_2)).trans hw365_2), ((HB.out.cell (World.block_lt_of_cell? w _ hw365_3)).trans hw365_3), ((HB.out.cell (World.block_lt_of_cell? w _ hw365_4)).trans hw365_4), ((HB.out.cell (World.block_lt_of_cell? w _ hw365_5)).trans hw365_5)⟩ (fun hHeld => ?_); refine with_tabW laws_eqRefValS.tab6 laws_eqRefValS.bits6 (fun HT_ HW_ => ?_)
        generalize wr.drew = w11 at HB HR364_1 HR365_1 hx364_0 hx364_1 hx364_2 hx364_3 hx364_4 hx364_5 hx365_0 hx365_1 hx365_2 hx365_3 hx365_4 hx365_5 hHeld ⊢
        refine sqp HT_ 0 17 ?_
        refine sqp HT_ 1 18 ?_
        refine sqp HT_ 2 19 ?_
        refine sqp HT_ 4 21 ?_
        refine sqp HT_ 5 22 ?_
        refine sqp HT_ 6 23 ?_
        refine sqw HT_ HW_ 3 20 hHeld ?_
        refine sqw HT_ HW_ 7 24 hHeld ?_
        refine sqo HT_ 8 25 (fun K hK => ?_)
        refine sqG Try.func204 #[.agg #[.bool ((rd_T132 l0 x5_1).f0), .slice A364_1 ((rd_T132 l0 x5_1).f1).length c364_1, .int .i64 ((rd_T132 l0 x5_1).f2.f0), .int .i64 ((rd_T132 l0 x5_1).f2.f1), .int .i64 ((rd_T132 l0 x5_1).f2.f2), .int .i64 ((rd_T132 l0 x5_1).f2.f3)], .agg #[.bool ((rd_T132 l1 x5_1).f0), .slice A365_1 ((rd_T132 l1 x5_1).f1).length c365_1, .int .i64 ((rd_T132 l1 x5_1).f2.f0), .int .i64 ((rd_T132 l1 x5_1).f2.f1), .int .i64 ((rd_T132 l1 x5_1).f2.f2), .int .i64 ((rd_T132 l1 x5_1).f2.f3)]] ?_
        with_reducible refine (laws_eqRefVal.calls k1 ((rd_T132 l0 x5_1).f0) _ _ ((rd_T132 l0 x5_1).f1) ((rd_T132 l0 x5_1).f2.f0) ((rd_T132 l0 x5_1).f2.f1) ((rd_T132 l0 x5_1).f2.f2) ((rd_T132 l0 x5_1).f2.f3) ((rd_T132 l1 x5_1).f0) _ _ ((rd_T132 l1 x5_1).f1) ((rd_T132 l1 x5_1).f2.f0) ((rd_T132 l1 x5_1).f2.f1) ((rd_T132 l1 x5_1).f2.f2) ((rd_T132 l1 x5_1).f2.f3) false _ ?side1 ?side2 ?side3 ?side4 A7.out).mono ?_
        (case side1 => repeat (first | exact (Kd.C_below HR364_1.out HB.out) | (with_reducible refine Kd.C_alloc ?_ _) | (with_reducible refine Kd.C_drewN ?_ _) | (with_reducible refine Kd.C_drew ?_)))
        (case side2 => exact HC364_1.out)
        (case side3 => repeat (first | exact (Kd.C_below HR365_1.out HB.out) | (with_reducible refine Kd.C_alloc ?_ _) | (with_reducible refine Kd.C_drewN ?_ _) | (with_reducible refine Kd.C_drew ?_)))
        (case side4 => exact HC365_1.out)
        rintro e w12 ⟨rfl, hb⟩
        refine ⟨_, rfl, ?_⟩
        replace HB := sqs HB hb
        (try clear hb)
        refine hK.out _ _ ⟨((HB.out.cell (World.block_lt_of_cell? w _ hw364_0)).trans hw364_0), ((HB.out.cell (World.block_lt_of_cell? w _ hw364_1)).trans hw364_1), ((HB.out.cell (World.block_lt_of_cell? w _ hw364_2)).trans hw364_2), ((HB.out.cell (World.block_lt_of_cell? w _ hw364_3)).trans hw364_3), ((HB.out.cell (World.block_lt_of_cell? w _ hw364_4)).trans hw364_4), ((HB.out.cell (World.block_lt_of_cell? w _ hw364_5)).trans hw364_5), ((HB.out.cell (World.block_lt_of_cell? w _ hw365_0)).trans hw365_0), ((HB.out.cell (World.block_lt_of_cell? w _ hw365_1)).trans hw365_1), ((HB.out.cell (World.block_lt_of_cell? w _ hw365_2)).trans hw365_2), ((HB.out.cell (World.block_lt_of_cell? w _ hw365_3)).trans hw365_3), ((HB.out.cell (World.block_lt_of_cell? w _ hw365_4)).trans hw365_4), ((HB.out.cell (World.block_lt_of_cell? w _ hw365_5)).trans hw365_5)⟩ (fun hHeld => ?_)
        clear hK K
        refine sqnm ?_
        refine sqp HT_ 9 26 ?_
        refine done_ (done_of HT_.out (by kernel_rfl)) ?_
        try go_wp2
        go_ret
        exact sqe HB
      ·rw [if_neg c6] at H
       exact absurd H (by simp)
     ·rw [if_neg c5] at H
      exact absurd H (by simp)
    ·rw [if_neg c4] at H
     have c4b0 : decide (x5_1 < (l0.length : Int)) = false := decide_eq_false c4
     clear c4
     obtain rfl := Option.some.inj H
     go_wp2
     go_ret
     exact sqe HB
 ·rw [if_neg c3] at H
  have c3b0 : ((l0.length : Int) == (l1.length : Int)) = false := beq_eq_false_iff_ne.mpr c3
  have c3b1 : ((l0.length : Int) != (l1.length : Int)) = true := bne_iff_ne.mpr c3
  have c3b2 : (l0.length == l1.length) = false := by first | simpa using c3 | (simp at c3 ⊢; omega)
  obtain rfl := Option.some.inj H
  go_enter Try.func147, Try.ntmps147
  go_wp2
  go_ret
  exact sqe HB

/-! ### laws_eqGaps: function 148 -/
theorem laws_eqGaps.mono : ∀ a0 a1 a2 a3 k, LeO (laws_eqGaps.f k a0 a1 a2 a3) (laws_eqGaps.f (k + 1) a0 a1 a2 a3) := by
 intro a0 a1 a2 a3 k
 unfold laws_eqGaps.f
 repeat' first
   | (with_reducible exact laws_eqIntS.mono _ _ _)
   | (with_reducible exact LeO.refl _)
   | (with_reducible exact LeO.none _)
   | (with_reducible refine LeO.ite ?_ ?_)
   | (with_reducible refine LeO.bind ?_ (fun _ => ?_))
   | exact laws_eqIntS.mono _ _ _
   | exact LeO.none _
   | refine LeO.ite ?_ ?_
   | refine LeO.bind ?_ (fun _ => ?_)
set_option maxHeartbeats 8000000 in
set_option maxRecDepth 100000 in
theorem laws_eqGaps.calls (k : Nat) (a0_0 : Int) (A0_1 : Option Addr) (c0_1 : Nat) (l0_1 : List Int) (a1_0 : Int) (A1_1 : Option Addr) (c1_1 : Nat) (l1_1 : List Int) (r : Bool) (w : World) (hr0_1 : Kd.C (Kd.int .i64) w A0_1 l0_1.length l0_1) (hc0_1 : l0_1.length ≤ c0_1) (hr1_1 : Kd.C (Kd.int .i64) w A1_1 l1_1.length l1_1) (hc1_1 : l1_1.length ≤ c1_1) (h : laws_eqGaps.f k a0_0 l0_1 a1_0 l1_1 = some r) :
  Calls Try.prog 148 #[.agg #[.int .i64 a0_0, .slice A0_1 l0_1.length c0_1], .agg #[.int .i64 a1_0, .slice A1_1 l1_1.length c1_1]] w fun e w' => e = .returned (.bool r) ∧ Below w.heap.size w w' := by
 have hu41 := Try.underlying41
 have HR0_1 := Aside0.mk hr0_1
 have HC0_1 := Aside0.mk hc0_1
 clear hr0_1 hc0_1
 have HR1_1 := Aside0.mk hr1_1
 have HC1_1 := Aside0.mk hc1_1
 clear hr1_1 hc1_1
 have HB := Aside0.mk (Below.refl w.heap.size w)
 have H : (if a0_0 = a1_0 then ((laws_eqIntS.f k l0_1 l1_1).bind fun t369 => (if t369 = true then (some true) else (some false))) else (some false)) = some r := h
 clear h
 by_cases c3 : a0_0 = a1_0
 ·rw [if_pos c3] at H
  have c3b0 : (a0_0 == a1_0) = true := beq_iff_eq.mpr c3
  have c3b1 : (a0_0 != a1_0) = false := bne_eq_false_iff_eq.mpr c3
  clear c3
  replace H := Option.bind_eq_some_iff.mp H
  obtain ⟨t369, A40, H⟩ := H
  replace H : (if t369 = true then (some true) else (some false)) = some r := H
  have A4 := Aside0.mk A40
  clear A40
  by_cases c5 : t369 = true
  ·subst c5
   have H1 : (some true) = some r := by rw [if_pos rfl] at H; exact H
   clear H
   have H := H1
   clear H1
   obtain rfl := Option.some.inj H
   go_enter Try.func148, Try.ntmps148
   go_wp2_with (first | ((with_reducible refine gate_dst (N := 2) rfl ?_); refine sqx 2 #[.int .i64 a0_0, .slice A0_1 l0_1.length c0_1] 41 ?_; intro gb367 hg w6 hbox hb; have BK367 := Aside0.mk (hbox); have GW367 := sqg HB hg; have GE367 := sqg HB hg; replace HB := sqs HB hb; clear hb hbox hg) | ((with_reducible refine gate_dst (N := 3) rfl ?_); refine sqx 3 #[.int .i64 a1_0, .slice A1_1 l1_1.length c1_1] 41 ?_; intro gb368 hg w7 hbox hb; have BK368 := Aside0.mk (hbox); have GW368 := sqg HB hg; have GE368 := sqg HB hg; have NB367_368 := sqn BK367 hg; have NB368_367 := sqm BK367 hg; replace BK367 := sqb BK367 hb; replace HB := sqs HB hb; clear hb hbox hg; have hnb8 := NB367_368.out; have hnc8 := NB368_367.out; obtain ⟨hcz9_0, hcz9_1, hfz9_0, hfz9_1⟩ := sqc2 BK367; obtain ⟨hcz10_0, hcz10_1, hfz10_0, hfz10_1⟩ := sqc2 BK368) | ((with_reducible refine gate_callee (f := 205) rfl ?_); refine sqL (some 14) Try.func205 #[.slice A0_1 l0_1.length c0_1, .slice A1_1 l1_1.length c1_1] ?_; (with_reducible refine (laws_eqIntS.calls k _ _ l0_1 _ _ l1_1 true _ ?side1 ?side2 ?side3 ?side4 A4.out).mono ?_); (case side1 => repeat (first | exact (Kd.C_below HR0_1.out HB.out) | (with_reducible refine Kd.C_alloc ?_ _) | (with_reducible refine Kd.C_drewN ?_ _) | (with_reducible refine Kd.C_drew ?_))); (case side2 => exact HC0_1.out); (case side3 => repeat (first | exact (Kd.C_below HR1_1.out HB.out) | (with_reducible refine Kd.C_alloc ?_ _) | (with_reducible refine Kd.C_drewN ?_ _) | (with_reducible refine Kd.C_drew ?_))); (case side4 => exact HC1_1.out); rintro e w' ⟨rfl, ⟨nd, rfl⟩⟩; refine ⟨_, rfl, ?_⟩))
   go_ret
   exact sqe HB
  ·replace c5 := Bool.eq_false_iff.mpr c5
   subst c5
   have H1 : (some false) = some r := by rw [if_neg (show ¬ (false = true) by decide)] at H; exact H
   clear H
   have H := H1
   clear H1
   obtain rfl := Option.some.inj H
   go_enter Try.func148, Try.ntmps148
   go_wp2_with (first | ((with_reducible refine gate_dst (N := 2) rfl ?_); refine sqx 2 #[.int .i64 a0_0, .slice A0_1 l0_1.length c0_1] 41 ?_; intro gb367 hg w11 hbox hb; have BK367 := Aside0.mk (hbox); have GW367 := sqg HB hg; have GE367 := sqg HB hg; replace HB := sqs HB hb; clear hb hbox hg) | ((with_reducible refine gate_dst (N := 3) rfl ?_); refine sqx 3 #[.int .i64 a1_0, .slice A1_1 l1_1.length c1_1] 41 ?_; intro gb368 hg w12 hbox hb; have BK368 := Aside0.mk (hbox); have GW368 := sqg HB hg; have GE368 := sqg HB hg; have NB367_368 := sqn BK367 hg; have NB368_367 := sqm BK367 hg; replace BK367 := sqb BK367 hb; replace HB := sqs HB hb; clear hb hbox hg; have hnb13 := NB367_368.out; have hnc13 := NB368_367.out; obtain ⟨hcz14_0, hcz14_1, hfz14_0, hfz14_1⟩ := sqc2 BK367; obtain ⟨hcz15_0, hcz15_1, hfz15_0, hfz15_1⟩ := sqc2 BK368) | ((with_reducible refine gate_callee (f := 205) rfl ?_); refine sqL (some 14) Try.func205 #[.slice A0_1 l0_1.length c0_1, .slice A1_1 l1_1.length c1_1] ?_; (with_reducible refine (laws_eqIntS.calls k _ _ l0_1 _ _ l1_1 false _ ?side1 ?side2 ?side3 ?side4 A4.out).mono ?_); (case side1 => repeat (first | exact (Kd.C_below HR0_1.out HB.out) | (with_reducible refine Kd.C_alloc ?_ _) | (with_reducible refine Kd.C_drewN ?_ _) | (with_reducible refine Kd.C_drew ?_))); (case side2 => exact HC0_1.out); (case side3 => repeat (first | exact (Kd.C_below HR1_1.out HB.out) | (with_reducible refine Kd.C_alloc ?_ _) | (with_reducible refine Kd.C_drewN ?_ _) | (with_reducible refine Kd.C_drew ?_))); (case side4 => exact HC1_1.out); rintro e w' ⟨rfl, ⟨nd, rfl⟩⟩; refine ⟨_, rfl, ?_⟩))
   go_ret
   exact sqe HB
 ·rw [if_neg c3] at H
  have c3b0 : (a0_0 == a1_0) = false := beq_eq_false_iff_ne.mpr c3
  have c3b1 : (a0_0 != a1_0) = true := bne_iff_ne.mpr c3
  obtain rfl := Option.some.inj H
  go_enter Try.func148, Try.ntmps148
  go_wp2_with (first | ((with_reducible refine gate_dst (N := 2) rfl ?_); refine sqx 2 #[.int .i64 a0_0, .slice A0_1 l0_1.length c0_1] 41 ?_; intro gb367 hg w16 hbox hb; have BK367 := Aside0.mk (hbox); have GW367 := sqg HB hg; have GE367 := sqg HB hg; replace HB := sqs HB hb; clear hb hbox hg) | ((with_reducible refine gate_dst (N := 3) rfl ?_); refine sqx 3 #[.int .i64 a1_0, .slice A1_1 l1_1.length c1_1] 41 ?_; intro gb368 hg w17 hbox hb; have BK368 := Aside0.mk (hbox); have GW368 := sqg HB hg; have GE368 := sqg HB hg; have NB367_368 := sqn BK367 hg; have NB368_367 := sqm BK367 hg; replace BK367 := sqb BK367 hb; replace HB := sqs HB hb; clear hb hbox hg; have hnb18 := NB367_368.out; have hnc18 := NB368_367.out; obtain ⟨hcz19_0, hcz19_1, hfz19_0, hfz19_1⟩ := sqc2 BK367; obtain ⟨hcz20_0, hcz20_1, hfz20_0, hfz20_1⟩ := sqc2 BK368))
  go_ret
  exact sqe HB

/-! ### laws_eqAbs: function 61 -/
theorem laws_eqAbs.mono : ∀ a0 a1 a2 a3 a4 a5 a6 a7 a8 a9 a10 a11 k, LeO (laws_eqAbs.f k a0 a1 a2 a3 a4 a5 a6 a7 a8 a9 a10 a11) (laws_eqAbs.f (k + 1) a0 a1 a2 a3 a4 a5 a6 a7 a8 a9 a10 a11) := by
 intro a0 a1 a2 a3 a4 a5 a6 a7 a8 a9 a10 a11 k
 unfold laws_eqAbs.f
 repeat' first
   | (with_reducible exact laws_eqGaps.mono _ _ _ _ _)
   | (with_reducible exact laws_eqRefValS.mono _ _ _)
   | (with_reducible exact laws_eqValS.mono _ _ _)
   | (with_reducible exact LeO.refl _)
   | (with_reducible exact LeO.none _)
   | (with_reducible refine LeO.ite ?_ ?_)
   | (with_reducible refine LeO.bind ?_ (fun _ => ?_))
   | exact laws_eqGaps.mono _ _ _ _ _
   | exact laws_eqRefValS.mono _ _ _
   | exact laws_eqValS.mono _ _ _
   | exact LeO.none _
   | refine LeO.ite ?_ ?_
   | refine LeO.bind ?_ (fun _ => ?_)
set_option maxHeartbeats 8000000 in
set_option maxRecDepth 100000 in
theorem laws_eqAbs.calls (k : Nat) (a0_0 : Bool) (A0_1 : Option Addr) (c0_1 : Nat) (l0_1 : List (S30)) (A0_2 : Option Addr) (c0_2 : Nat) (l0_2 : List (S132)) (A0_3 : Option Addr) (c0_3 : Nat) (l0_3 : List (S30)) (a0_4 : Int) (A0_5 : Option Addr) (c0_5 : Nat) (l0_5 : List Int) (a1_0 : Bool) (A1_1 : Option Addr) (c1_1 : Nat) (l1_1 : List (S30)) (A1_2 : Option Addr) (c1_2 : Nat) (l1_2 : List (S132)) (A1_3 : Option Addr) (c1_3 : Nat) (l1_3 : List (S30)) (a1_4 : Int) (A1_5 : Option Addr) (c1_5 : Nat) (l1_5 : List Int) (r : Bool) (w : World) (hr0_1 : Kd.C k30 w A0_1 l0_1.length l0_1) (hc0_1 : l0_1.length ≤ c0_1) (hr0_2 : Kd.C k132 w A0_2 l0_2.length l0_2) (hc0_2 : l0_2.length ≤ c0_2) (hr0_3 : Kd.C k30 w A0_3 l0_3.length l0_3) (hc0_3 : l0_3.length ≤ c0_3) (hr0_5 : Kd.C (Kd.int .i64) w A0_5 l0_5.length l0_5) (hc0_5 : l0_5.length ≤ c0_5) (hr1_1 : Kd.C k30 w A1_1 l1_1.length l1_1) (hc1_1 : l1_1.length ≤ c1_1) (hr1_2 : Kd.C k132 w A1_2 l1_2.length l1_2) (hc1_2 : l1_2.length ≤ c1_2) (hr1_3 : Kd.C k30 w A1_3 l1_3.length l1_3) (hc1_3 : l1_3.length ≤ c1_3) (hr1_5 : Kd.C (Kd.int .i64) w A1_5 l1_5.length l1_5) (hc1_5 : l1_5.length ≤ c1_5) (h : laws_eqAbs.f k a0_0 l0_1 l0_2 l0_3 a0_4 l0_5 a1_0 l1_1 l1_2 l1_3 a1_4 l1_5 = some r) :
  Calls Try.prog 61 #[.agg #[.bool a0_0, .slice A0_1 l0_1.length c0_1, .slice A0_2 l0_2.length c0_2, .slice A0_3 l0_3.length c0_3, .int .i64 a0_4, .slice A0_5 l0_5.length c0_5], .agg #[.bool a1_0, .slice A1_1 l1_1.length c1_1, .slice A1_2 l1_2.length c1_2, .slice A1_3 l1_3.length c1_3, .int .i64 a1_4, .slice A1_5 l1_5.length c1_5]] w fun e w' => e = .returned (.bool r) ∧ Below w.heap.size w w' := by
 have hu78 := Try.underlying78
 have hu41 := Try.underlying41
 have HR0_1 := Aside0.mk hr0_1
 have HC0_1 := Aside0.mk hc0_1
 clear hr0_1 hc0_1
 have HR0_2 := Aside0.mk hr0_2
 have HC0_2 := Aside0.mk hc0_2
 clear hr0_2 hc0_2
 have HR0_3 := Aside0.mk hr0_3
 have HC0_3 := Aside0.mk hc0_3
 clear hr0_3 hc0_3
 have HR0_5 := Aside0.mk hr0_5
 have HC0_5 := Aside0.mk hc0_5
 clear hr0_5 hc0_5
 have HR1_1 := Aside0.mk hr1_1
 have HC1_1 := Aside0.mk hc1_1
 clear hr1_1 hc1_1
 have HR1_2 := Aside0.mk hr1_2
 have HC1_2 := Aside0.mk hc1_2
 clear hr1_2 hc1_2
 have HR1_3 := Aside0.mk hr1_3
 have HC1_3 := Aside0.mk hc1_3
 clear hr1_3 hc1_3
 have HR1_5 := Aside0.mk hr1_5
 have HC1_5 := Aside0.mk hc1_5
 clear hr1_5 hc1_5
 have HB := Aside0.mk (Below.refl w.heap.size w)
 have H : (if (a0_0 != a1_0) = true then (some false) else ((laws_eqValS.f k l0_1 l1_1).bind fun t372 => (if t372 = true then ((laws_eqRefValS.f k l0_2 l1_2).bind fun t373 => (if t373 = true then ((laws_eqValS.f k l0_3 l1_3).bind fun t374 => (if t374 = true then ((laws_eqGaps.f k a0_4 l0_5 a1_4 l1_5).bind fun t375 => (if t375 = true then (some true) else (some false))) else (some false))) else (some false))) else (some false)))) = some r := h
 clear h
 by_cases c3 : (a0_0 != a1_0) = true
 ·rw [if_pos c3] at H
  have c3b0 : (a0_0 != a1_0) = true := c3
  (try (have c3b1 : decide (a0_0 = a1_0) = false := by simpa using c3))
  (try (have c3b2 : (a0_0 == a1_0) = false := by simpa using c3))
  (try (have c3b3 : ¬ (a0_0 = a1_0) := by simpa using c3))
  clear c3
  obtain rfl := Option.some.inj H
  go_enter Try.func61, Try.ntmps61
  go_wp2_with (first | ((with_reducible refine gate_dst (N := 2) rfl ?_); refine sqx 2 #[.bool a0_0, .slice A0_1 l0_1.length c0_1, .slice A0_2 l0_2.length c0_2, .slice A0_3 l0_3.length c0_3, .int .i64 a0_4, .slice A0_5 l0_5.length c0_5] 78 ?_; intro gb370 hg w4 hbox hb; have BK370 := Aside0.mk (hbox); have GW370 := sqg HB hg; have GE370 := sqg HB hg; replace HB := sqs HB hb; clear hb hbox hg) | ((with_reducible refine gate_dst (N := 3) rfl ?_); refine sqx 3 #[.bool a1_0, .slice A1_1 l1_1.length c1_1, .slice A1_2 l1_2.length c1_2, .slice A1_3 l1_3.length c1_3, .int .i64 a1_4, .slice A1_5 l1_5.length c1_5] 78 ?_; intro gb371 hg w5 hbox hb; have BK371 := Aside0.mk (hbox); have GW371 := sqg HB hg; have GE371 := sqg HB hg; have NB370_371 := sqn BK370 hg; have NB371_370 := sqm BK370 hg; replace BK370 := sqb BK370 hb; replace HB := sqs HB hb; clear hb hbox hg; have hnb6 := NB370_371.out; have hnc6 := NB371_370.out; have hcz7_0 : w5.cell? ⟨gb370, 0, none⟩ = some (.bool a0_0) := (blk_cell BK370.out 0).trans rfl; have hcz7_1 : w5.cell? ⟨gb370, 1, none⟩ = some (.slice A0_1 l0_1.length c0_1) := (blk_cell BK370.out 1).trans rfl; have hcz7_2 : w5.cell? ⟨gb370, 2, none⟩ = some (.slice A0_2 l0_2.length c0_2) := (blk_cell BK370.out 2).trans rfl; have hcz7_3 : w5.cell? ⟨gb370, 3, none⟩ = some (.slice A0_3 l0_3.length c0_3) := (blk_cell BK370.out 3).trans rfl; have hcz7_4 : w5.cell? ⟨gb370, 4, none⟩ = some (.int .i64 a0_4) := (blk_cell BK370.out 4).trans rfl; have hcz7_5 : w5.cell? ⟨gb370, 5, none⟩ = some (.slice A0_5 l0_5.length c0_5) := (blk_cell BK370.out 5).trans rfl; have hfz7_0 := blk_frozen BK370.out 0; have hfz7_1 := blk_frozen BK370.out 1; have hfz7_2 := blk_frozen BK370.out 2; have hfz7_3 := blk_frozen BK370.out 3; have hfz7_4 := blk_frozen BK370.out 4; have hfz7_5 := blk_frozen BK370.out 5; have hcz8_0 : w5.cell? ⟨gb371, 0, none⟩ = some (.bool a1_0) := (blk_cell BK371.out 0).trans rfl; have hcz8_1 : w5.cell? ⟨gb371, 1, none⟩ = some (.slice A1_1 l1_1.length c1_1) := (blk_cell BK371.out 1).trans rfl; have hcz8_2 : w5.cell? ⟨gb371, 2, none⟩ = some (.slice A1_2 l1_2.length c1_2) := (blk_cell BK371.out 2).trans rfl; have hcz8_3 : w5.cell? ⟨gb371, 3, none⟩ = some (.slice A1_3 l1_3.length c1_3) := (blk_cell BK371.out 3).trans rfl; have hcz8_4 : w5.cell? ⟨gb371, 4, none⟩ = some (.int .i64 a1_4) := (blk_cell BK371.out 4).trans rfl; have hcz8_5 : w5.cell? ⟨gb371, 5, none⟩ = some (.slice A1_5 l1_5.length c1_5) := (blk_cell BK371.out 5).trans rfl; have hfz8_0 := blk_frozen BK371.out 0; have hfz8_1 := blk_frozen BK371.out 1; have hfz8_2 := blk_frozen BK371.out 2; have hfz8_3 := blk_frozen BK371.out 3; have hfz8_4 := blk_frozen BK371.out 4; have hfz8_5 := blk_frozen BK371.out 5))
  go_ret
  exact sqe HB
 ·rw [if_neg c3] at H
  have c3b0 : (a0_0 != a1_0) = false := by simpa using c3
  (try (have c3b1 : decide (a0_0 = a1_0) = true := by simpa using c3))
  (try (have c3b2 : (a0_0 == a1_0) = true := by simpa using c3))
  clear c3
  replace H := Option.bind_eq_some_iff.mp H
  obtain ⟨t372, A90, H⟩ := H
  replace H : (if t372 = true then ((laws_eqRefValS.f k l0_2 l1_2).bind fun t373 => (if t373 = true then ((laws_eqValS.f k l0_3 l1_3).bind fun t374 => (if t374 = true then ((laws_eqGaps.f k a0_4 l0_5 a1_4 l1_5).bind fun t375 => (if t375 = true then (some true) else (some false))) else (some false))) else (some false))) else (some false)) = some r := H
  have A9 := Aside0.mk A90
  clear A90
  by_cases c10 : t372 = true
  ·subst c10
   have H1 : ((laws_eqRefValS.f k l0_2 l1_2).bind fun t373 => (if t373 = true then ((laws_eqValS.f k l0_3 l1_3).bind fun t374 => (if t374 = true then ((laws_eqGaps.f k a0_4 l0_5 a1_4 l1_5).bind fun t375 => (if t375 = true then (some true) else (some false))) else (some false))) else (some false))) = some r := by rw [if_pos rfl] at H; exact H
   clear H
   have H := H1
   clear H1
   replace H := Option.bind_eq_some_iff.mp H
   obtain ⟨t373, A110, H⟩ := H
   replace H : (if t373 = true then ((laws_eqValS.f k l0_3 l1_3).bind fun t374 => (if t374 = true then ((laws_eqGaps.f k a0_4 l0_5 a1_4 l1_5).bind fun t375 => (if t375 = true then (some true) else (some false))) else (some false))) else (some false)) = some r := H
   have A11 := Aside0.mk A110
   clear A110
   by_cases c12 : t373 = true
   ·subst c12
    have H1 : ((laws_eqValS.f k l0_3 l1_3).bind fun t374 => (if t374 = true then ((laws_eqGaps.f k a0_4 l0_5 a1_4 l1_5).bind fun t375 => (if t375 = true then (some true) else (some false))) else (some false))) = some r := by rw [if_pos rfl] at H; exact H
    clear H
    have H := H1
    clear H1
    replace H := Option.bind_eq_some_iff.mp H
    obtain ⟨t374, A130, H⟩ := H
    replace H : (if t374 = true then ((laws_eqGaps.f k a0_4 l0_5 a1_4 l1_5).bind fun t375 => (if t375 = true then (some true) else (some false))) else (some false)) = some r := H
    have A13 := Aside0.mk A130
    clear A130
    by_cases c14 : t374 = true
    ·subst c14
     have H1 : ((laws_eqGaps.f k a0_4 l0_5 a1_4 l1_5).bind fun t375 => (if t375 = true then (some true) else (some false))) = some r := by rw [if_pos rfl] at H; exact H
     clear H
     have H := H1
     clear H1
     replace H := Option.bind_eq_some_iff.mp H
     obtain ⟨t375, A150, H⟩ := H
     replace H : (if t375 = true then (some true) else (some false)) = some r := H
     have A15 := Aside0.mk A150
     clear A150
     by_cases c16 : t375 = true
     ·subst c16
      have H1 : (some true) = some r := by rw [if_pos rfl] at H; exact H
      clear H
      have H := H1
      clear H1
      obtain rfl := Option.some.inj H
      go_enter Try.func61, Try.ntmps61
      go_wp2_with (first | ((with_reducible refine gate_dst (N := 2) rfl ?_); refine sqx 2 #[.bool a0_0, .slice A0_1 l0_1.length c0_1, .slice A0_2 l0_2.length c0_2, .slice A0_3 l0_3.length c0_3, .int .i64 a0_4, .slice A0_5 l0_5.length c0_5] 78 ?_; intro gb370 hg w17 hbox hb; have BK370 := Aside0.mk (hbox); have GW370 := sqg HB hg; have GE370 := sqg HB hg; replace HB := sqs HB hb; clear hb hbox hg) | ((with_reducible refine gate_dst (N := 3) rfl ?_); refine sqx 3 #[.bool a1_0, .slice A1_1 l1_1.length c1_1, .slice A1_2 l1_2.length c1_2, .slice A1_3 l1_3.length c1_3, .int .i64 a1_4, .slice A1_5 l1_5.length c1_5] 78 ?_; intro gb371 hg w18 hbox hb; have BK371 := Aside0.mk (hbox); have GW371 := sqg HB hg; have GE371 := sqg HB hg; have NB370_371 := sqn BK370 hg; have NB371_370 := sqm BK370 hg; replace BK370 := sqb BK370 hb; replace HB := sqs HB hb; clear hb hbox hg; have hnb19 := NB370_371.out; have hnc19 := NB371_370.out; have hcz20_0 : w18.cell? ⟨gb370, 0, none⟩ = some (.bool a0_0) := (blk_cell BK370.out 0).trans rfl; have hcz20_1 : w18.cell? ⟨gb370, 1, none⟩ = some (.slice A0_1 l0_1.length c0_1) := (blk_cell BK370.out 1).trans rfl; have hcz20_2 : w18.cell? ⟨gb370, 2, none⟩ = some (.slice A0_2 l0_2.length c0_2) := (blk_cell BK370.out 2).trans rfl; have hcz20_3 : w18.cell? ⟨gb370, 3, none⟩ = some (.slice A0_3 l0_3.length c0_3) := (blk_cell BK370.out 3).trans rfl; have hcz20_4 : w18.cell? ⟨gb370, 4, none⟩ = some (.int .i64 a0_4) := (blk_cell BK370.out 4).trans rfl; have hcz20_5 : w18.cell? ⟨gb370, 5, none⟩ = some (.slice A0_5 l0_5.length c0_5) := (blk_cell BK370.out 5).trans rfl; have hfz20_0 := blk_frozen BK370.out 0; have hfz20_1 := blk_frozen BK370.out 1; have hfz20_2 := blk_frozen BK370.out 2; have hfz20_3 := blk_frozen BK370.out 3; have hfz20_4 := blk_frozen BK370.out 4; have hfz20_5 := blk_frozen BK370.out 5; have hcz21_0 : w18.cell? ⟨gb371, 0, none⟩ = some (.bool a1_0) := (blk_cell BK371.out 0).trans rfl; have hcz21_1 : w18.cell? ⟨gb371, 1, none⟩ = some (.slice A1_1 l1_1.length c1_1) := (blk_cell BK371.out 1).trans rfl; have hcz21_2 : w18.cell? ⟨gb371, 2, none⟩ = some (.slice A1_2 l1_2.length c1_2) := (blk_cell BK371.out 2).trans rfl; have hcz21_3 : w18.cell? ⟨gb371, 3, none⟩ = some (.slice A1_3 l1_3.length c1_3) := (blk_cell BK371.out 3).trans rfl; have hcz21_4 : w18.cell? ⟨gb371, 4, none⟩ = some (.int .i64 a1_4) := (blk_cell BK371.out 4).trans rfl; have hcz21_5 : w18.cell? ⟨gb371, 5, none⟩ = some (.slice A1_5 l1_5.length c1_5) := (blk_cell BK371.out 5).trans rfl; have hfz21_0 := blk_frozen BK371.out 0; have hfz21_1 := blk_frozen BK371.out 1; have hfz21_2 := blk_frozen BK371.out 2; have hfz21_3 := blk_frozen BK371.out 3; have hfz21_4 := blk_frozen BK371.out 4; have hfz21_5 := blk_frozen BK371.out 5) | ((with_reducible refine gate_callee (f := 146) rfl ?_); refine sqL (some 14) Try.func146 #[.slice A0_1 l0_1.length c0_1, .slice A1_1 l1_1.length c1_1] ?_; (with_reducible refine (laws_eqValS.calls k _ _ l0_1 _ _ l1_1 true _ ?side1 ?side2 ?side3 ?side4 A9.out).mono ?_); (case side1 => repeat (first | exact (Kd.C_below HR0_1.out HB.out) | (with_reducible refine Kd.C_alloc ?_ _) | (with_reducible refine Kd.C_drewN ?_ _) | (with_reducible refine Kd.C_drew ?_))); (case side2 => exact HC0_1.out); (case side3 => repeat (first | exact (Kd.C_below HR1_1.out HB.out) | (with_reducible refine Kd.C_alloc ?_ _) | (with_reducible refine Kd.C_drewN ?_ _) | (with_reducible refine Kd.C_drew ?_))); (case side4 => exact HC1_1.out); rintro e w22 ⟨rfl, hb⟩; refine ⟨_, rfl, ?_⟩; replace BK370 := sqb BK370 hb; replace BK371 := sqb BK371 hb; replace HB := sqs HB hb; (try clear hb); have hcz23_0 : w22.cell? ⟨gb370, 0, none⟩ = some (.bool a0_0) := (blk_cell BK370.out 0).trans rfl; have hcz23_1 : w22.cell? ⟨gb370, 1, none⟩ = some (.slice A0_1 l0_1.length c0_1) := (blk_cell BK370.out 1).trans rfl; have hcz23_2 : w22.cell? ⟨gb370, 2, none⟩ = some (.slice A0_2 l0_2.length c0_2) := (blk_cell BK370.out 2).trans rfl; have hcz23_3 : w22.cell? ⟨gb370, 3, none⟩ = some (.slice A0_3 l0_3.length c0_3) := (blk_cell BK370.out 3).trans rfl; have hcz23_4 : w22.cell? ⟨gb370, 4, none⟩ = some (.int .i64 a0_4) := (blk_cell BK370.out 4).trans rfl; have hcz23_5 : w22.cell? ⟨gb370, 5, none⟩ = some (.slice A0_5 l0_5.length c0_5) := (blk_cell BK370.out 5).trans rfl; have hfz23_0 := blk_frozen BK370.out 0; have hfz23_1 := blk_frozen BK370.out 1; have hfz23_2 := blk_frozen BK370.out 2; have hfz23_3 := blk_frozen BK370.out 3; have hfz23_4 := blk_frozen BK370.out 4; have hfz23_5 := blk_frozen BK370.out 5; have hcz24_0 : w22.cell? ⟨gb371, 0, none⟩ = some (.bool a1_0) := (blk_cell BK371.out 0).trans rfl; have hcz24_1 : w22.cell? ⟨gb371, 1, none⟩ = some (.slice A1_1 l1_1.length c1_1) := (blk_cell BK371.out 1).trans rfl; have hcz24_2 : w22.cell? ⟨gb371, 2, none⟩ = some (.slice A1_2 l1_2.length c1_2) := (blk_cell BK371.out 2).trans rfl; have hcz24_3 : w22.cell? ⟨gb371, 3, none⟩ = some (.slice A1_3 l1_3.length c1_3) := (blk_cell BK371.out 3).trans rfl; have hcz24_4 : w22.cell? ⟨gb371, 4, none⟩ = some (.int .i64 a1_4) := (blk_cell BK371.out 4).trans rfl; have hcz24_5 : w22.cell? ⟨gb371, 5, none⟩ = some (.slice A1_5 l1_5.length c1_5) := (blk_cell BK371.out 5).trans rfl; have hfz24_0 := blk_frozen BK371.out 0; have hfz24_1 := blk_frozen BK371.out 1; have hfz24_2 := blk_frozen BK371.out 2; have hfz24_3 := blk_frozen BK371.out 3; have hfz24_4 := blk_frozen BK371.out 4; have hfz24_5 := blk_frozen BK371.out 5) | ((with_reducible refine gate_callee (f := 147) rfl ?_); refine sqL (some 20) Try.func147 #[.slice A0_2 l0_2.length c0_2, .slice A1_2 l1_2.length c1_2] ?_; (with_reducible refine (laws_eqRefValS.calls k _ _ l0_2 _ _ l1_2 true _ ?side1 ?side2 ?side3 ?side4 A11.out).mono ?_); (case side1 => repeat (first | exact (Kd.C_below HR0_2.out HB.out) | (with_reducible refine Kd.C_alloc ?_ _) | (with_reducible refine Kd.C_drewN ?_ _) | (with_reducible refine Kd.C_drew ?_))); (case side2 => exact HC0_2.out); (case side3 => repeat (first | exact (Kd.C_below HR1_2.out HB.out) | (with_reducible refine Kd.C_alloc ?_ _) | (with_reducible refine Kd.C_drewN ?_ _) | (with_reducible refine Kd.C_drew ?_))); (case side4 => exact HC1_2.out); rintro e w25 ⟨rfl, hb⟩; refine ⟨_, rfl, ?_⟩; replace BK370 := sqb BK370 hb; replace BK371 := sqb BK371 hb; replace HB := sqs HB hb; (try clear hb); have hcz26_0 : w25.cell? ⟨gb370, 0, none⟩ = some (.bool a0_0) := (blk_cell BK370.out 0).trans rfl; have hcz26_1 : w25.cell? ⟨gb370, 1, none⟩ = some (.slice A0_1 l0_1.length c0_1) := (blk_cell BK370.out 1).trans rfl; have hcz26_2 : w25.cell? ⟨gb370, 2, none⟩ = some (.slice A0_2 l0_2.length c0_2) := (blk_cell BK370.out 2).trans rfl; have hcz26_3 : w25.cell? ⟨gb370, 3, none⟩ = some (.slice A0_3 l0_3.length c0_3) := (blk_cell BK370.out 3).trans rfl; have hcz26_4 : w25.cell? ⟨gb370, 4, none⟩ = some (.int .i64 a0_4) := (blk_cell BK370.out 4).trans rfl; have hcz26_5 : w25.cell? ⟨gb370, 5, none⟩ = some (.slice A0_5 l0_5.length c0_5) := (blk_cell BK370.out 5).trans rfl; have hfz26_0 := blk_frozen BK370.out 0; have hfz26_1 := blk_frozen BK370.out 1; have hfz26_2 := blk_frozen BK370.out 2; have hfz26_3 := blk_frozen BK370.out 3; have hfz26_4 := blk_frozen BK370.out 4; have hfz26_5 := blk_frozen BK370.out 5; have hcz27_0 : w25.cell? ⟨gb371, 0, none⟩ = some (.bool a1_0) := (blk_cell BK371.out 0).trans rfl; have hcz27_1 : w25.cell? ⟨gb371, 1, none⟩ = some (.slice A1_1 l1_1.length c1_1) := (blk_cell BK371.out 1).trans rfl; have hcz27_2 : w25.cell? ⟨gb371, 2, none⟩ = some (.slice A1_2 l1_2.length c1_2) := (blk_cell BK371.out 2).trans rfl; have hcz27_3 : w25.cell? ⟨gb371, 3, none⟩ = some (.slice A1_3 l1_3.length c1_3) := (blk_cell BK371.out 3).trans rfl; have hcz27_4 : w25.cell? ⟨gb371, 4, none⟩ = some (.int .i64 a1_4) := (blk_cell BK371.out 4).trans rfl; have hcz27_5 : w25.cell? ⟨gb371, 5, none⟩ = some (.slice A1_5 l1_5.length c1_5) := (blk_cell BK371.out 5).trans rfl; have hfz27_0 := blk_frozen BK371.out 0; have hfz27_1 := blk_frozen BK371.out 1; have hfz27_2 := blk_frozen BK371.out 2; have hfz27_3 := blk_frozen BK371.out 3; have hfz27_4 := blk_frozen BK371.out 4; have hfz27_5 := blk_frozen BK371.out 5) | ((with_reducible refine gate_callee (f := 146) rfl ?_); refine sqL (some 26) Try.func146 #[.slice A0_3 l0_3.length c0_3, .slice A1_3 l1_3.length c1_3] ?_; (with_reducible refine (laws_eqValS.calls k _ _ l0_3 _ _ l1_3 true _ ?side1 ?side2 ?side3 ?side4 A13.out).mono ?_); (case side1 => repeat (first | exact (Kd.C_below HR0_3.out HB.out) | (with_reducible refine Kd.C_alloc ?_ _) | (with_reducible refine Kd.C_drewN ?_ _) | (with_reducible refine Kd.C_drew ?_))); (case side2 => exact HC0_3.out); (case side3 => repeat (first | exact (Kd.C_below HR1_3.out HB.out) | (with_reducible refine Kd.C_alloc ?_ _) | (with_reducible refine Kd.C_drewN ?_ _) | (with_reducible refine Kd.C_drew ?_))); (case side4 => exact HC1_3.out); rintro e w28 ⟨rfl, hb⟩; refine ⟨_, rfl, ?_⟩; replace BK370 := sqb BK370 hb; replace BK371 := sqb BK371 hb; replace HB := sqs HB hb; (try clear hb); have hcz29_0 : w28.cell? ⟨gb370, 0, none⟩ = some (.bool a0_0) := (blk_cell BK370.out 0).trans rfl; have hcz29_1 : w28.cell? ⟨gb370, 1, none⟩ = some (.slice A0_1 l0_1.length c0_1) := (blk_cell BK370.out 1).trans rfl; have hcz29_2 : w28.cell? ⟨gb370, 2, none⟩ = some (.slice A0_2 l0_2.length c0_2) := (blk_cell BK370.out 2).trans rfl; have hcz29_3 : w28.cell? ⟨gb370, 3, none⟩ = some (.slice A0_3 l0_3.length c0_3) := (blk_cell BK370.out 3).trans rfl; have hcz29_4 : w28.cell? ⟨gb370, 4, none⟩ = some (.int .i64 a0_4) := (blk_cell BK370.out 4).trans rfl; have hcz29_5 : w28.cell? ⟨gb370, 5, none⟩ = some (.slice A0_5 l0_5.length c0_5) := (blk_cell BK370.out 5).trans rfl; have hfz29_0 := blk_frozen BK370.out 0; have hfz29_1 := blk_frozen BK370.out 1; have hfz29_2 := blk_frozen BK370.out 2; have hfz29_3 := blk_frozen BK370.out 3; have hfz29_4 := blk_frozen BK370.out 4; have hfz29_5 := blk_frozen BK370.out 5; have hcz30_0 : w28.cell? ⟨gb371, 0, none⟩ = some (.bool a1_0) := (blk_cell BK371.out 0).trans rfl; have hcz30_1 : w28.cell? ⟨gb371, 1, none⟩ = some (.slice A1_1 l1_1.length c1_1) := (blk_cell BK371.out 1).trans rfl; have hcz30_2 : w28.cell? ⟨gb371, 2, none⟩ = some (.slice A1_2 l1_2.length c1_2) := (blk_cell BK371.out 2).trans rfl; have hcz30_3 : w28.cell? ⟨gb371, 3, none⟩ = some (.slice A1_3 l1_3.length c1_3) := (blk_cell BK371.out 3).trans rfl; have hcz30_4 : w28.cell? ⟨gb371, 4, none⟩ = some (.int .i64 a1_4) := (blk_cell BK371.out 4).trans rfl; have hcz30_5 : w28.cell? ⟨gb371, 5, none⟩ = some (.slice A1_5 l1_5.length c1_5) := (blk_cell BK371.out 5).trans rfl; have hfz30_0 := blk_frozen BK371.out 0; have hfz30_1 := blk_frozen BK371.out 1; have hfz30_2 := blk_frozen BK371.out 2; have hfz30_3 := blk_frozen BK371.out 3; have hfz30_4 := blk_frozen BK371.out 4; have hfz30_5 := blk_frozen BK371.out 5) | ((with_reducible refine gate_callee (f := 148) rfl ?_); refine sqL (some 32) Try.func148 #[.agg #[.int .i64 a0_4, .slice A0_5 l0_5.length c0_5], .agg #[.int .i64 a1_4, .slice A1_5 l1_5.length c1_5]] ?_; (with_reducible refine (laws_eqGaps.calls k a0_4 _ _ l0_5 a1_4 _ _ l1_5 true _ ?side1 ?side2 ?side3 ?side4 A15.out).mono ?_); (case side1 => repeat (first | exact (Kd.C_below HR0_5.out HB.out) | (with_reducible refine Kd.C_alloc ?_ _) | (with_reducible refine Kd.C_drewN ?_ _) | (with_reducible refine Kd.C_drew ?_))); (case side2 => exact HC0_5.out); (case side3 => repeat (first | exact (Kd.C_below HR1_5.out HB.out) | (with_reducible refine Kd.C_alloc ?_ _) | (with_reducible refine Kd.C_drewN ?_ _) | (with_reducible refine Kd.C_drew ?_))); (case side4 => exact HC1_5.out); rintro e w31 ⟨rfl, hb⟩; refine ⟨_, rfl, ?_⟩; replace BK370 := sqb BK370 hb; replace BK371 := sqb BK371 hb; replace HB := sqs HB hb; (try clear hb)))
      go_ret
      exact sqe HB
     ·replace c16 := Bool.eq_false_iff.mpr c16
      subst c16
      have H1 : (some false) = some r := by rw [if_neg (show ¬ (false = true) by decide)] at H; exact H
      clear H
      have H := H1
      clear H1
      obtain rfl := Option.some.inj H
      go_enter Try.func61, Try.ntmps61
      go_wp2_with (first | ((with_reducible refine gate_dst (N := 2) rfl ?_); refine sqx 2 #[.bool a0_0, .slice A0_1 l0_1.length c0_1, .slice A0_2 l0_2.length c0_2, .slice A0_3 l0_3.length c0_3, .int .i64 a0_4, .slice A0_5 l0_5.length c0_5] 78 ?_; intro gb370 hg w32 hbox hb; have BK370 := Aside0.mk (hbox); have GW370 := sqg HB hg; have GE370 := sqg HB hg; replace HB := sqs HB hb; clear hb hbox hg) | ((with_reducible refine gate_dst (N := 3) rfl ?_); refine sqx 3 #[.bool a1_0, .slice A1_1 l1_1.length c1_1, .slice A1_2 l1_2.length c1_2, .slice A1_3 l1_3.length c1_3, .int .i64 a1_4, .slice A1_5 l1_5.length c1_5] 78 ?_; intro gb371 hg w33 hbox hb; have BK371 := Aside0.mk (hbox); have GW371 := sqg HB hg; have GE371 := sqg HB hg; have NB370_371 := sqn BK370 hg; have NB371_370 := sqm BK370 hg; replace BK370 := sqb BK370 hb; replace HB := sqs HB hb; clear hb hbox hg; have hnb34 := NB370_371.out; have hnc34 := NB371_370.out; have hcz35_0 : w33.cell? ⟨gb370, 0, none⟩ = some (.bool a0_0) := (blk_cell BK370.out 0).trans rfl; have hcz35_1 : w33.cell? ⟨gb370, 1, none⟩ = some (.slice A0_1 l0_1.length c0_1) := (blk_cell BK370.out 1).trans rfl; have hcz35_2 : w33.cell? ⟨gb370, 2, none⟩ = some (.slice A0_2 l0_2.length c0_2) := (blk_cell BK370.out 2).trans rfl; have hcz35_3 : w33.cell? ⟨gb370, 3, none⟩ = some (.slice A0_3 l0_3.length c0_3) := (blk_cell BK370.out 3).trans rfl; have hcz35_4 : w33.cell? ⟨gb370, 4, none⟩ = some (.int .i64 a0_4) := (blk_cell BK370.out 4).trans rfl; have hcz35_5 : w33.cell? ⟨gb370, 5, none⟩ = some (.slice A0_5 l0_5.length c0_5) := (blk_cell BK370.out 5).trans rfl; have hfz35_0 := blk_frozen BK370.out 0; have hfz35_1 := blk_frozen BK370.out 1; have hfz35_2 := blk_frozen BK370.out 2; have hfz35_3 := blk_frozen BK370.out 3; have hfz35_4 := blk_frozen BK370.out 4; have hfz35_5 := blk_frozen BK370.out 5; have hcz36_0 : w33.cell? ⟨gb371, 0, none⟩ = some (.bool a1_0) := (blk_cell BK371.out 0).trans rfl; have hcz36_1 : w33.cell? ⟨gb371, 1, none⟩ = some (.slice A1_1 l1_1.length c1_1) := (blk_cell BK371.out 1).trans rfl; have hcz36_2 : w33.cell? ⟨gb371, 2, none⟩ = some (.slice A1_2 l1_2.length c1_2) := (blk_cell BK371.out 2).trans rfl; have hcz36_3 : w33.cell? ⟨gb371, 3, none⟩ = some (.slice A1_3 l1_3.length c1_3) := (blk_cell BK371.out 3).trans rfl; have hcz36_4 : w33.cell? ⟨gb371, 4, none⟩ = some (.int .i64 a1_4) := (blk_cell BK371.out 4).trans rfl; have hcz36_5 : w33.cell? ⟨gb371, 5, none⟩ = some (.slice A1_5 l1_5.length c1_5) := (blk_cell BK371.out 5).trans rfl; have hfz36_0 := blk_frozen BK371.out 0; have hfz36_1 := blk_frozen BK371.out 1; have hfz36_2 := blk_frozen BK371.out 2; have hfz36_3 := blk_frozen BK371.out 3; have hfz36_4 := blk_frozen BK371.out 4; have hfz36_5 := blk_frozen BK371.out 5) | ((with_reducible refine gate_callee (f := 146) rfl ?_); refine sqL (some 14) Try.func146 #[.slice A0_1 l0_1.length c0_1, .slice A1_1 l1_1.length c1_1] ?_; (with_reducible refine (laws_eqValS.calls k _ _ l0_1 _ _ l1_1 true _ ?side1 ?side2 ?side3 ?side4 A9.out).mono ?_); (case side1 => repeat (first | exact (Kd.C_below HR0_1.out HB.out) | (with_reducible refine Kd.C_alloc ?_ _) | (with_reducible refine Kd.C_drewN ?_ _) | (with_reducible refine Kd.C_drew ?_))); (case side2 => exact HC0_1.out); (case side3 => repeat (first | exact (Kd.C_below HR1_1.out HB.out) | (with_reducible refine Kd.C_alloc ?_ _) | (with_reducible refine Kd.C_drewN ?_ _) | (with_reducible refine Kd.C_drew ?_))); (case side4 => exact HC1_1.out); rintro e w37 ⟨rfl, hb⟩; refine ⟨_, rfl, ?_⟩; replace BK370 := sqb BK370 hb; replace BK371 := sqb BK371 hb; replace HB := sqs HB hb; (try clear hb); have hcz38_0 : w37.cell? ⟨gb370, 0, none⟩ = some (.bool a0_0) := (blk_cell BK370.out 0).trans rfl; have hcz38_1 : w37.cell? ⟨gb370, 1, none⟩ = some (.slice A0_1 l0_1.length c0_1) := (blk_cell BK370.out 1).trans rfl; have hcz38_2 : w37.cell? ⟨gb370, 2, none⟩ = some (.slice A0_2 l0_2.length c0_2) := (blk_cell BK370.out 2).trans rfl; have hcz38_3 : w37.cell? ⟨gb370, 3, none⟩ = some (.slice A0_3 l0_3.length c0_3) := (blk_cell BK370.out 3).trans rfl; have hcz38_4 : w37.cell? ⟨gb370, 4, none⟩ = some (.int .i64 a0_4) := (blk_cell BK370.out 4).trans rfl; have hcz38_5 : w37.cell? ⟨gb370, 5, none⟩ = some (.slice A0_5 l0_5.length c0_5) := (blk_cell BK370.out 5).trans rfl; have hfz38_0 := blk_frozen BK370.out 0; have hfz38_1 := blk_frozen BK370.out 1; have hfz38_2 := blk_frozen BK370.out 2; have hfz38_3 := blk_frozen BK370.out 3; have hfz38_4 := blk_frozen BK370.out 4; have hfz38_5 := blk_frozen BK370.out 5; have hcz39_0 : w37.cell? ⟨gb371, 0, none⟩ = some (.bool a1_0) := (blk_cell BK371.out 0).trans rfl; have hcz39_1 : w37.cell? ⟨gb371, 1, none⟩ = some (.slice A1_1 l1_1.length c1_1) := (blk_cell BK371.out 1).trans rfl; have hcz39_2 : w37.cell? ⟨gb371, 2, none⟩ = some (.slice A1_2 l1_2.length c1_2) := (blk_cell BK371.out 2).trans rfl; have hcz39_3 : w37.cell? ⟨gb371, 3, none⟩ = some (.slice A1_3 l1_3.length c1_3) := (blk_cell BK371.out 3).trans rfl; have hcz39_4 : w37.cell? ⟨gb371, 4, none⟩ = some (.int .i64 a1_4) := (blk_cell BK371.out 4).trans rfl; have hcz39_5 : w37.cell? ⟨gb371, 5, none⟩ = some (.slice A1_5 l1_5.length c1_5) := (blk_cell BK371.out 5).trans rfl; have hfz39_0 := blk_frozen BK371.out 0; have hfz39_1 := blk_frozen BK371.out 1; have hfz39_2 := blk_frozen BK371.out 2; have hfz39_3 := blk_frozen BK371.out 3; have hfz39_4 := blk_frozen BK371.out 4; have hfz39_5 := blk_frozen BK371.out 5) | ((with_reducible refine gate_callee (f := 147) rfl ?_); refine sqL (some 20) Try.func147 #[.slice A0_2 l0_2.length c0_2, .slice A1_2 l1_2.length c1_2] ?_; (with_reducible refine (laws_eqRefValS.calls k _ _ l0_2 _ _ l1_2 true _ ?side1 ?side2 ?side3 ?side4 A11.out).mono ?_); (case side1 => repeat (first | exact (Kd.C_below HR0_2.out HB.out) | (with_reducible refine Kd.C_alloc ?_ _) | (with_reducible refine Kd.C_drewN ?_ _) | (with_reducible refine Kd.C_drew ?_))); (case side2 => exact HC0_2.out); (case side3 => repeat (first | exact (Kd.C_below HR1_2.out HB.out) | (with_reducible refine Kd.C_alloc ?_ _) | (with_reducible refine Kd.C_drewN ?_ _) | (with_reducible refine Kd.C_drew ?_))); (case side4 => exact HC1_2.out); rintro e w40 ⟨rfl, hb⟩; refine ⟨_, rfl, ?_⟩; replace BK370 := sqb BK370 hb; replace BK371 := sqb BK371 hb; replace HB := sqs HB hb; (try clear hb); have hcz41_0 : w40.cell? ⟨gb370, 0, none⟩ = some (.bool a0_0) := (blk_cell BK370.out 0).trans rfl; have hcz41_1 : w40.cell? ⟨gb370, 1, none⟩ = some (.slice A0_1 l0_1.length c0_1) := (blk_cell BK370.out 1).trans rfl; have hcz41_2 : w40.cell? ⟨gb370, 2, none⟩ = some (.slice A0_2 l0_2.length c0_2) := (blk_cell BK370.out 2).trans rfl; have hcz41_3 : w40.cell? ⟨gb370, 3, none⟩ = some (.slice A0_3 l0_3.length c0_3) := (blk_cell BK370.out 3).trans rfl; have hcz41_4 : w40.cell? ⟨gb370, 4, none⟩ = some (.int .i64 a0_4) := (blk_cell BK370.out 4).trans rfl; have hcz41_5 : w40.cell? ⟨gb370, 5, none⟩ = some (.slice A0_5 l0_5.length c0_5) := (blk_cell BK370.out 5).trans rfl; have hfz41_0 := blk_frozen BK370.out 0; have hfz41_1 := blk_frozen BK370.out 1; have hfz41_2 := blk_frozen BK370.out 2; have hfz41_3 := blk_frozen BK370.out 3; have hfz41_4 := blk_frozen BK370.out 4; have hfz41_5 := blk_frozen BK370.out 5; have hcz42_0 : w40.cell? ⟨gb371, 0, none⟩ = some (.bool a1_0) := (blk_cell BK371.out 0).trans rfl; have hcz42_1 : w40.cell? ⟨gb371, 1, none⟩ = some (.slice A1_1 l1_1.length c1_1) := (blk_cell BK371.out 1).trans rfl; have hcz42_2 : w40.cell? ⟨gb371, 2, none⟩ = some (.slice A1_2 l1_2.length c1_2) := (blk_cell BK371.out 2).trans rfl; have hcz42_3 : w40.cell? ⟨gb371, 3, none⟩ = some (.slice A1_3 l1_3.length c1_3) := (blk_cell BK371.out 3).trans rfl; have hcz42_4 : w40.cell? ⟨gb371, 4, none⟩ = some (.int .i64 a1_4) := (blk_cell BK371.out 4).trans rfl; have hcz42_5 : w40.cell? ⟨gb371, 5, none⟩ = some (.slice A1_5 l1_5.length c1_5) := (blk_cell BK371.out 5).trans rfl; have hfz42_0 := blk_frozen BK371.out 0; have hfz42_1 := blk_frozen BK371.out 1; have hfz42_2 := blk_frozen BK371.out 2; have hfz42_3 := blk_frozen BK371.out 3; have hfz42_4 := blk_frozen BK371.out 4; have hfz42_5 := blk_frozen BK371.out 5) | ((with_reducible refine gate_callee (f := 146) rfl ?_); refine sqL (some 26) Try.func146 #[.slice A0_3 l0_3.length c0_3, .slice A1_3 l1_3.length c1_3] ?_; (with_reducible refine (laws_eqValS.calls k _ _ l0_3 _ _ l1_3 true _ ?side1 ?side2 ?side3 ?side4 A13.out).mono ?_); (case side1 => repeat (first | exact (Kd.C_below HR0_3.out HB.out) | (with_reducible refine Kd.C_alloc ?_ _) | (with_reducible refine Kd.C_drewN ?_ _) | (with_reducible refine Kd.C_drew ?_))); (case side2 => exact HC0_3.out); (case side3 => repeat (first | exact (Kd.C_below HR1_3.out HB.out) | (with_reducible refine Kd.C_alloc ?_ _) | (with_reducible refine Kd.C_drewN ?_ _) | (with_reducible refine Kd.C_drew ?_))); (case side4 => exact HC1_3.out); rintro e w43 ⟨rfl, hb⟩; refine ⟨_, rfl, ?_⟩; replace BK370 := sqb BK370 hb; replace BK371 := sqb BK371 hb; replace HB := sqs HB hb; (try clear hb); have hcz44_0 : w43.cell? ⟨gb370, 0, none⟩ = some (.bool a0_0) := (blk_cell BK370.out 0).trans rfl; have hcz44_1 : w43.cell? ⟨gb370, 1, none⟩ = some (.slice A0_1 l0_1.length c0_1) := (blk_cell BK370.out 1).trans rfl; have hcz44_2 : w43.cell? ⟨gb370, 2, none⟩ = some (.slice A0_2 l0_2.length c0_2) := (blk_cell BK370.out 2).trans rfl; have hcz44_3 : w43.cell? ⟨gb370, 3, none⟩ = some (.slice A0_3 l0_3.length c0_3) := (blk_cell BK370.out 3).trans rfl; have hcz44_4 : w43.cell? ⟨gb370, 4, none⟩ = some (.int .i64 a0_4) := (blk_cell BK370.out 4).trans rfl; have hcz44_5 : w43.cell? ⟨gb370, 5, none⟩ = some (.slice A0_5 l0_5.length c0_5) := (blk_cell BK370.out 5).trans rfl; have hfz44_0 := blk_frozen BK370.out 0; have hfz44_1 := blk_frozen BK370.out 1; have hfz44_2 := blk_frozen BK370.out 2; have hfz44_3 := blk_frozen BK370.out 3; have hfz44_4 := blk_frozen BK370.out 4; have hfz44_5 := blk_frozen BK370.out 5; have hcz45_0 : w43.cell? ⟨gb371, 0, none⟩ = some (.bool a1_0) := (blk_cell BK371.out 0).trans rfl; have hcz45_1 : w43.cell? ⟨gb371, 1, none⟩ = some (.slice A1_1 l1_1.length c1_1) := (blk_cell BK371.out 1).trans rfl; have hcz45_2 : w43.cell? ⟨gb371, 2, none⟩ = some (.slice A1_2 l1_2.length c1_2) := (blk_cell BK371.out 2).trans rfl; have hcz45_3 : w43.cell? ⟨gb371, 3, none⟩ = some (.slice A1_3 l1_3.length c1_3) := (blk_cell BK371.out 3).trans rfl; have hcz45_4 : w43.cell? ⟨gb371, 4, none⟩ = some (.int .i64 a1_4) := (blk_cell BK371.out 4).trans rfl; have hcz45_5 : w43.cell? ⟨gb371, 5, none⟩ = some (.slice A1_5 l1_5.length c1_5) := (blk_cell BK371.out 5).trans rfl; have hfz45_0 := blk_frozen BK371.out 0; have hfz45_1 := blk_frozen BK371.out 1; have hfz45_2 := blk_frozen BK371.out 2; have hfz45_3 := blk_frozen BK371.out 3; have hfz45_4 := blk_frozen BK371.out 4; have hfz45_5 := blk_frozen BK371.out 5) | ((with_reducible refine gate_callee (f := 148) rfl ?_); refine sqL (some 32) Try.func148 #[.agg #[.int .i64 a0_4, .slice A0_5 l0_5.length c0_5], .agg #[.int .i64 a1_4, .slice A1_5 l1_5.length c1_5]] ?_; (with_reducible refine (laws_eqGaps.calls k a0_4 _ _ l0_5 a1_4 _ _ l1_5 false _ ?side1 ?side2 ?side3 ?side4 A15.out).mono ?_); (case side1 => repeat (first | exact (Kd.C_below HR0_5.out HB.out) | (with_reducible refine Kd.C_alloc ?_ _) | (with_reducible refine Kd.C_drewN ?_ _) | (with_reducible refine Kd.C_drew ?_))); (case side2 => exact HC0_5.out); (case side3 => repeat (first | exact (Kd.C_below HR1_5.out HB.out) | (with_reducible refine Kd.C_alloc ?_ _) | (with_reducible refine Kd.C_drewN ?_ _) | (with_reducible refine Kd.C_drew ?_))); (case side4 => exact HC1_5.out); rintro e w46 ⟨rfl, hb⟩; refine ⟨_, rfl, ?_⟩; replace BK370 := sqb BK370 hb; replace BK371 := sqb BK371 hb; replace HB := sqs HB hb; (try clear hb)))
      go_ret
      exact sqe HB
    ·replace c14 := Bool.eq_false_iff.mpr c14
     subst c14
     have H1 : (some false) = some r := by rw [if_neg (show ¬ (false = true) by decide)] at H; exact H
     clear H
     have H := H1
     clear H1
     obtain rfl := Option.some.inj H
     go_enter Try.func61, Try.ntmps61
     go_wp2_with (first | ((with_reducible refine gate_dst (N := 2) rfl ?_); refine sqx 2 #[.bool a0_0, .slice A0_1 l0_1.length c0_1, .slice A0_2 l0_2.length c0_2, .slice A0_3 l0_3.length c0_3, .int .i64 a0_4, .slice A0_5 l0_5.length c0_5] 78 ?_; intro gb370 hg w47 hbox hb; have BK370 := Aside0.mk (hbox); have GW370 := sqg HB hg; have GE370 := sqg HB hg; replace HB := sqs HB hb; clear hb hbox hg) | ((with_reducible refine gate_dst (N := 3) rfl ?_); refine sqx 3 #[.bool a1_0, .slice A1_1 l1_1.length c1_1, .slice A1_2 l1_2.length c1_2, .slice A1_3 l1_3.length c1_3, .int .i64 a1_4, .slice A1_5 l1_5.length c1_5] 78 ?_; intro gb371 hg w48 hbox hb; have BK371 := Aside0.mk (hbox); have GW371 := sqg HB hg; have GE371 := sqg HB hg; have NB370_371 := sqn BK370 hg; have NB371_370 := sqm BK370 hg; replace BK370 := sqb BK370 hb; replace HB := sqs HB hb; clear hb hbox hg; have hnb49 := NB370_371.out; have hnc49 := NB371_370.out; have hcz50_0 : w48.cell? ⟨gb370, 0, none⟩ = some (.bool a0_0) := (blk_cell BK370.out 0).trans rfl; have hcz50_1 : w48.cell? ⟨gb370, 1, none⟩ = some (.slice A0_1 l0_1.length c0_1) := (blk_cell BK370.out 1).trans rfl; have hcz50_2 : w48.cell? ⟨gb370, 2, none⟩ = some (.slice A0_2 l0_2.length c0_2) := (blk_cell BK370.out 2).trans rfl; have hcz50_3 : w48.cell? ⟨gb370, 3, none⟩ = some (.slice A0_3 l0_3.length c0_3) := (blk_cell BK370.out 3).trans rfl; have hcz50_4 : w48.cell? ⟨gb370, 4, none⟩ = some (.int .i64 a0_4) := (blk_cell BK370.out 4).trans rfl; have hcz50_5 : w48.cell? ⟨gb370, 5, none⟩ = some (.slice A0_5 l0_5.length c0_5) := (blk_cell BK370.out 5).trans rfl; have hfz50_0 := blk_frozen BK370.out 0; have hfz50_1 := blk_frozen BK370.out 1; have hfz50_2 := blk_frozen BK370.out 2; have hfz50_3 := blk_frozen BK370.out 3; have hfz50_4 := blk_frozen BK370.out 4; have hfz50_5 := blk_frozen BK370.out 5; have hcz51_0 : w48.cell? ⟨gb371, 0, none⟩ = some (.bool a1_0) := (blk_cell BK371.out 0).trans rfl; have hcz51_1 : w48.cell? ⟨gb371, 1, none⟩ = some (.slice A1_1 l1_1.length c1_1) := (blk_cell BK371.out 1).trans rfl; have hcz51_2 : w48.cell? ⟨gb371, 2, none⟩ = some (.slice A1_2 l1_2.length c1_2) := (blk_cell BK371.out 2).trans rfl; have hcz51_3 : w48.cell? ⟨gb371, 3, none⟩ = some (.slice A1_3 l1_3.length c1_3) := (blk_cell BK371.out 3).trans rfl; have hcz51_4 : w48.cell? ⟨gb371, 4, none⟩ = some (.int .i64 a1_4) := (blk_cell BK371.out 4).trans rfl; have hcz51_5 : w48.cell? ⟨gb371, 5, none⟩ = some (.slice A1_5 l1_5.length c1_5) := (blk_cell BK371.out 5).trans rfl; have hfz51_0 := blk_frozen BK371.out 0; have hfz51_1 := blk_frozen BK371.out 1; have hfz51_2 := blk_frozen BK371.out 2; have hfz51_3 := blk_frozen BK371.out 3; have hfz51_4 := blk_frozen BK371.out 4; have hfz51_5 := blk_frozen BK371.out 5) | ((with_reducible refine gate_callee (f := 146) rfl ?_); refine sqL (some 14) Try.func146 #[.slice A0_1 l0_1.length c0_1, .slice A1_1 l1_1.length c1_1] ?_; (with_reducible refine (laws_eqValS.calls k _ _ l0_1 _ _ l1_1 true _ ?side1 ?side2 ?side3 ?side4 A9.out).mono ?_); (case side1 => repeat (first | exact (Kd.C_below HR0_1.out HB.out) | (with_reducible refine Kd.C_alloc ?_ _) | (with_reducible refine Kd.C_drewN ?_ _) | (with_reducible refine Kd.C_drew ?_))); (case side2 => exact HC0_1.out); (case side3 => repeat (first | exact (Kd.C_below HR1_1.out HB.out) | (with_reducible refine Kd.C_alloc ?_ _) | (with_reducible refine Kd.C_drewN ?_ _) | (with_reducible refine Kd.C_drew ?_))); (case side4 => exact HC1_1.out); rintro e w52 ⟨rfl, hb⟩; refine ⟨_, rfl, ?_⟩; replace BK370 := sqb BK370 hb; replace BK371 := sqb BK371 hb; replace HB := sqs HB hb; (try clear hb); have hcz53_0 : w52.cell? ⟨gb370, 0, none⟩ = some (.bool a0_0) := (blk_cell BK370.out 0).trans rfl; have hcz53_1 : w52.cell? ⟨gb370, 1, none⟩ = some (.slice A0_1 l0_1.length c0_1) := (blk_cell BK370.out 1).trans rfl; have hcz53_2 : w52.cell? ⟨gb370, 2, none⟩ = some (.slice A0_2 l0_2.length c0_2) := (blk_cell BK370.out 2).trans rfl; have hcz53_3 : w52.cell? ⟨gb370, 3, none⟩ = some (.slice A0_3 l0_3.length c0_3) := (blk_cell BK370.out 3).trans rfl; have hcz53_4 : w52.cell? ⟨gb370, 4, none⟩ = some (.int .i64 a0_4) := (blk_cell BK370.out 4).trans rfl; have hcz53_5 : w52.cell? ⟨gb370, 5, none⟩ = some (.slice A0_5 l0_5.length c0_5) := (blk_cell BK370.out 5).trans rfl; have hfz53_0 := blk_frozen BK370.out 0; have hfz53_1 := blk_frozen BK370.out 1; have hfz53_2 := blk_frozen BK370.out 2; have hfz53_3 := blk_frozen BK370.out 3; have hfz53_4 := blk_frozen BK370.out 4; have hfz53_5 := blk_frozen BK370.out 5; have hcz54_0 : w52.cell? ⟨gb371, 0, none⟩ = some (.bool a1_0) := (blk_cell BK371.out 0).trans rfl; have hcz54_1 : w52.cell? ⟨gb371, 1, none⟩ = some (.slice A1_1 l1_1.length c1_1) := (blk_cell BK371.out 1).trans rfl; have hcz54_2 : w52.cell? ⟨gb371, 2, none⟩ = some (.slice A1_2 l1_2.length c1_2) := (blk_cell BK371.out 2).trans rfl; have hcz54_3 : w52.cell? ⟨gb371, 3, none⟩ = some (.slice A1_3 l1_3.length c1_3) := (blk_cell BK371.out 3).trans rfl; have hcz54_4 : w52.cell? ⟨gb371, 4, none⟩ = some (.int .i64 a1_4) := (blk_cell BK371.out 4).trans rfl; have hcz54_5 : w52.cell? ⟨gb371, 5, none⟩ = some (.slice A1_5 l1_5.length c1_5) := (blk_cell BK371.out 5).trans rfl; have hfz54_0 := blk_frozen BK371.out 0; have hfz54_1 := blk_frozen BK371.out 1; have hfz54_2 := blk_frozen BK371.out 2; have hfz54_3 := blk_frozen BK371.out 3; have hfz54_4 := blk_frozen BK371.out 4; have hfz54_5 := blk_frozen BK371.out 5) | ((with_reducible refine gate_callee (f := 147) rfl ?_); refine sqL (some 20) Try.func147 #[.slice A0_2 l0_2.length c0_2, .slice A1_2 l1_2.length c1_2] ?_; (with_reducible refine (laws_eqRefValS.calls k _ _ l0_2 _ _ l1_2 true _ ?side1 ?side2 ?side3 ?side4 A11.out).mono ?_); (case side1 => repeat (first | exact (Kd.C_below HR0_2.out HB.out) | (with_reducible refine Kd.C_alloc ?_ _) | (with_reducible refine Kd.C_drewN ?_ _) | (with_reducible refine Kd.C_drew ?_))); (case side2 => exact HC0_2.out); (case side3 => repeat (first | exact (Kd.C_below HR1_2.out HB.out) | (with_reducible refine Kd.C_alloc ?_ _) | (with_reducible refine Kd.C_drewN ?_ _) | (with_reducible refine Kd.C_drew ?_))); (case side4 => exact HC1_2.out); rintro e w55 ⟨rfl, hb⟩; refine ⟨_, rfl, ?_⟩; replace BK370 := sqb BK370 hb; replace BK371 := sqb BK371 hb; replace HB := sqs HB hb; (try clear hb); have hcz56_0 : w55.cell? ⟨gb370, 0, none⟩ = some (.bool a0_0) := (blk_cell BK370.out 0).trans rfl; have hcz56_1 : w55.cell? ⟨gb370, 1, none⟩ = some (.slice A0_1 l0_1.length c0_1) := (blk_cell BK370.out 1).trans rfl; have hcz56_2 : w55.cell? ⟨gb370, 2, none⟩ = some (.slice A0_2 l0_2.length c0_2) := (blk_cell BK370.out 2).trans rfl; have hcz56_3 : w55.cell? ⟨gb370, 3, none⟩ = some (.slice A0_3 l0_3.length c0_3) := (blk_cell BK370.out 3).trans rfl; have hcz56_4 : w55.cell? ⟨gb370, 4, none⟩ = some (.int .i64 a0_4) := (blk_cell BK370.out 4).trans rfl; have hcz56_5 : w55.cell? ⟨gb370, 5, none⟩ = some (.slice A0_5 l0_5.length c0_5) := (blk_cell BK370.out 5).trans rfl; have hfz56_0 := blk_frozen BK370.out 0; have hfz56_1 := blk_frozen BK370.out 1; have hfz56_2 := blk_frozen BK370.out 2; have hfz56_3 := blk_frozen BK370.out 3; have hfz56_4 := blk_frozen BK370.out 4; have hfz56_5 := blk_frozen BK370.out 5; have hcz57_0 : w55.cell? ⟨gb371, 0, none⟩ = some (.bool a1_0) := (blk_cell BK371.out 0).trans rfl; have hcz57_1 : w55.cell? ⟨gb371, 1, none⟩ = some (.slice A1_1 l1_1.length c1_1) := (blk_cell BK371.out 1).trans rfl; have hcz57_2 : w55.cell? ⟨gb371, 2, none⟩ = some (.slice A1_2 l1_2.length c1_2) := (blk_cell BK371.out 2).trans rfl; have hcz57_3 : w55.cell? ⟨gb371, 3, none⟩ = some (.slice A1_3 l1_3.length c1_3) := (blk_cell BK371.out 3).trans rfl; have hcz57_4 : w55.cell? ⟨gb371, 4, none⟩ = some (.int .i64 a1_4) := (blk_cell BK371.out 4).trans rfl; have hcz57_5 : w55.cell? ⟨gb371, 5, none⟩ = some (.slice A1_5 l1_5.length c1_5) := (blk_cell BK371.out 5).trans rfl; have hfz57_0 := blk_frozen BK371.out 0; have hfz57_1 := blk_frozen BK371.out 1; have hfz57_2 := blk_frozen BK371.out 2; have hfz57_3 := blk_frozen BK371.out 3; have hfz57_4 := blk_frozen BK371.out 4; have hfz57_5 := blk_frozen BK371.out 5) | ((with_reducible refine gate_callee (f := 146) rfl ?_); refine sqL (some 26) Try.func146 #[.slice A0_3 l0_3.length c0_3, .slice A1_3 l1_3.length c1_3] ?_; (with_reducible refine (laws_eqValS.calls k _ _ l0_3 _ _ l1_3 false _ ?side1 ?side2 ?side3 ?side4 A13.out).mono ?_); (case side1 => repeat (first | exact (Kd.C_below HR0_3.out HB.out) | (with_reducible refine Kd.C_alloc ?_ _) | (with_reducible refine Kd.C_drewN ?_ _) | (with_reducible refine Kd.C_drew ?_))); (case side2 => exact HC0_3.out); (case side3 => repeat (first | exact (Kd.C_below HR1_3.out HB.out) | (with_reducible refine Kd.C_alloc ?_ _) | (with_reducible refine Kd.C_drewN ?_ _) | (with_reducible refine Kd.C_drew ?_))); (case side4 => exact HC1_3.out); rintro e w58 ⟨rfl, hb⟩; refine ⟨_, rfl, ?_⟩; replace BK370 := sqb BK370 hb; replace BK371 := sqb BK371 hb; replace HB := sqs HB hb; (try clear hb)))
     go_ret
     exact sqe HB
   ·replace c12 := Bool.eq_false_iff.mpr c12
    subst c12
    have H1 : (some false) = some r := by rw [if_neg (show ¬ (false = true) by decide)] at H; exact H
    clear H
    have H := H1
    clear H1
    obtain rfl := Option.some.inj H
    go_enter Try.func61, Try.ntmps61
    go_wp2_with (first | ((with_reducible refine gate_dst (N := 2) rfl ?_); refine sqx 2 #[.bool a0_0, .slice A0_1 l0_1.length c0_1, .slice A0_2 l0_2.length c0_2, .slice A0_3 l0_3.length c0_3, .int .i64 a0_4, .slice A0_5 l0_5.length c0_5] 78 ?_; intro gb370 hg w59 hbox hb; have BK370 := Aside0.mk (hbox); have GW370 := sqg HB hg; have GE370 := sqg HB hg; replace HB := sqs HB hb; clear hb hbox hg) | ((with_reducible refine gate_dst (N := 3) rfl ?_); refine sqx 3 #[.bool a1_0, .slice A1_1 l1_1.length c1_1, .slice A1_2 l1_2.length c1_2, .slice A1_3 l1_3.length c1_3, .int .i64 a1_4, .slice A1_5 l1_5.length c1_5] 78 ?_; intro gb371 hg w60 hbox hb; have BK371 := Aside0.mk (hbox); have GW371 := sqg HB hg; have GE371 := sqg HB hg; have NB370_371 := sqn BK370 hg; have NB371_370 := sqm BK370 hg; replace BK370 := sqb BK370 hb; replace HB := sqs HB hb; clear hb hbox hg; have hnb61 := NB370_371.out; have hnc61 := NB371_370.out; have hcz62_0 : w60.cell? ⟨gb370, 0, none⟩ = some (.bool a0_0) := (blk_cell BK370.out 0).trans rfl; have hcz62_1 : w60.cell? ⟨gb370, 1, none⟩ = some (.slice A0_1 l0_1.length c0_1) := (blk_cell BK370.out 1).trans rfl; have hcz62_2 : w60.cell? ⟨gb370, 2, none⟩ = some (.slice A0_2 l0_2.length c0_2) := (blk_cell BK370.out 2).trans rfl; have hcz62_3 : w60.cell? ⟨gb370, 3, none⟩ = some (.slice A0_3 l0_3.length c0_3) := (blk_cell BK370.out 3).trans rfl; have hcz62_4 : w60.cell? ⟨gb370, 4, none⟩ = some (.int .i64 a0_4) := (blk_cell BK370.out 4).trans rfl; have hcz62_5 : w60.cell? ⟨gb370, 5, none⟩ = some (.slice A0_5 l0_5.length c0_5) := (blk_cell BK370.out 5).trans rfl; have hfz62_0 := blk_frozen BK370.out 0; have hfz62_1 := blk_frozen BK370.out 1; have hfz62_2 := blk_frozen BK370.out 2; have hfz62_3 := blk_frozen BK370.out 3; have hfz62_4 := blk_frozen BK370.out 4; have hfz62_5 := blk_frozen BK370.out 5; have hcz63_0 : w60.cell? ⟨gb371, 0, none⟩ = some (.bool a1_0) := (blk_cell BK371.out 0).trans rfl; have hcz63_1 : w60.cell? ⟨gb371, 1, none⟩ = some (.slice A1_1 l1_1.length c1_1) := (blk_cell BK371.out 1).trans rfl; have hcz63_2 : w60.cell? ⟨gb371, 2, none⟩ = some (.slice A1_2 l1_2.length c1_2) := (blk_cell BK371.out 2).trans rfl; have hcz63_3 : w60.cell? ⟨gb371, 3, none⟩ = some (.slice A1_3 l1_3.length c1_3) := (blk_cell BK371.out 3).trans rfl; have hcz63_4 : w60.cell? ⟨gb371, 4, none⟩ = some (.int .i64 a1_4) := (blk_cell BK371.out 4).trans rfl; have hcz63_5 : w60.cell? ⟨gb371, 5, none⟩ = some (.slice A1_5 l1_5.length c1_5) := (blk_cell BK371.out 5).trans rfl; have hfz63_0 := blk_frozen BK371.out 0; have hfz63_1 := blk_frozen BK371.out 1; have hfz63_2 := blk_frozen BK371.out 2; have hfz63_3 := blk_frozen BK371.out 3; have hfz63_4 := blk_frozen BK371.out 4; have hfz63_5 := blk_frozen BK371.out 5) | ((with_reducible refine gate_callee (f := 146) rfl ?_); refine sqL (some 14) Try.func146 #[.slice A0_1 l0_1.length c0_1, .slice A1_1 l1_1.length c1_1] ?_; (with_reducible refine (laws_eqValS.calls k _ _ l0_1 _ _ l1_1 true _ ?side1 ?side2 ?side3 ?side4 A9.out).mono ?_); (case side1 => repeat (first | exact (Kd.C_below HR0_1.out HB.out) | (with_reducible refine Kd.C_alloc ?_ _) | (with_reducible refine Kd.C_drewN ?_ _) | (with_reducible refine Kd.C_drew ?_))); (case side2 => exact HC0_1.out); (case side3 => repeat (first | exact (Kd.C_below HR1_1.out HB.out) | (with_reducible refine Kd.C_alloc ?_ _) | (with_reducible refine Kd.C_drewN ?_ _) | (with_reducible refine Kd.C_drew ?_))); (case side4 => exact HC1_1.out); rintro e w64 ⟨rfl, hb⟩; refine ⟨_, rfl, ?_⟩; replace BK370 := sqb BK370 hb; replace BK371 := sqb BK371 hb; replace HB := sqs HB hb; (try clear hb); have hcz65_0 : w64.cell? ⟨gb370, 0, none⟩ = some (.bool a0_0) := (blk_cell BK370.out 0).trans rfl; have hcz65_1 : w64.cell? ⟨gb370, 1, none⟩ = some (.slice A0_1 l0_1.length c0_1) := (blk_cell BK370.out 1).trans rfl; have hcz65_2 : w64.cell? ⟨gb370, 2, none⟩ = some (.slice A0_2 l0_2.length c0_2) := (blk_cell BK370.out 2).trans rfl; have hcz65_3 : w64.cell? ⟨gb370, 3, none⟩ = some (.slice A0_3 l0_3.length c0_3) := (blk_cell BK370.out 3).trans rfl; have hcz65_4 : w64.cell? ⟨gb370, 4, none⟩ = some (.int .i64 a0_4) := (blk_cell BK370.out 4).trans rfl; have hcz65_5 : w64.cell? ⟨gb370, 5, none⟩ = some (.slice A0_5 l0_5.length c0_5) := (blk_cell BK370.out 5).trans rfl; have hfz65_0 := blk_frozen BK370.out 0; have hfz65_1 := blk_frozen BK370.out 1; have hfz65_2 := blk_frozen BK370.out 2; have hfz65_3 := blk_frozen BK370.out 3; have hfz65_4 := blk_frozen BK370.out 4; have hfz65_5 := blk_frozen BK370.out 5; have hcz66_0 : w64.cell? ⟨gb371, 0, none⟩ = some (.bool a1_0) := (blk_cell BK371.out 0).trans rfl; have hcz66_1 : w64.cell? ⟨gb371, 1, none⟩ = some (.slice A1_1 l1_1.length c1_1) := (blk_cell BK371.out 1).trans rfl; have hcz66_2 : w64.cell? ⟨gb371, 2, none⟩ = some (.slice A1_2 l1_2.length c1_2) := (blk_cell BK371.out 2).trans rfl; have hcz66_3 : w64.cell? ⟨gb371, 3, none⟩ = some (.slice A1_3 l1_3.length c1_3) := (blk_cell BK371.out 3).trans rfl; have hcz66_4 : w64.cell? ⟨gb371, 4, none⟩ = some (.int .i64 a1_4) := (blk_cell BK371.out 4).trans rfl; have hcz66_5 : w64.cell? ⟨gb371, 5, none⟩ = some (.slice A1_5 l1_5.length c1_5) := (blk_cell BK371.out 5).trans rfl; have hfz66_0 := blk_frozen BK371.out 0; have hfz66_1 := blk_frozen BK371.out 1; have hfz66_2 := blk_frozen BK371.out 2; have hfz66_3 := blk_frozen BK371.out 3; have hfz66_4 := blk_frozen BK371.out 4; have hfz66_5 := blk_frozen BK371.out 5) | ((with_reducible refine gate_callee (f := 147) rfl ?_); refine sqL (some 20) Try.func147 #[.slice A0_2 l0_2.length c0_2, .slice A1_2 l1_2.length c1_2] ?_; (with_reducible refine (laws_eqRefValS.calls k _ _ l0_2 _ _ l1_2 false _ ?side1 ?side2 ?side3 ?side4 A11.out).mono ?_); (case side1 => repeat (first | exact (Kd.C_below HR0_2.out HB.out) | (with_reducible refine Kd.C_alloc ?_ _) | (with_reducible refine Kd.C_drewN ?_ _) | (with_reducible refine Kd.C_drew ?_))); (case side2 => exact HC0_2.out); (case side3 => repeat (first | exact (Kd.C_below HR1_2.out HB.out) | (with_reducible refine Kd.C_alloc ?_ _) | (with_reducible refine Kd.C_drewN ?_ _) | (with_reducible refine Kd.C_drew ?_))); (case side4 => exact HC1_2.out); rintro e w67 ⟨rfl, hb⟩; refine ⟨_, rfl, ?_⟩; replace BK370 := sqb BK370 hb; replace BK371 := sqb BK371 hb; replace HB := sqs HB hb; (try clear hb)))
    go_ret
    exact sqe HB
  ·replace c10 := Bool.eq_false_iff.mpr c10
   subst c10
   have H1 : (some false) = some r := by rw [if_neg (show ¬ (false = true) by decide)] at H; exact H
   clear H
   have H := H1
   clear H1
   obtain rfl := Option.some.inj H
   go_enter Try.func61, Try.ntmps61
   go_wp2_with (first | ((with_reducible refine gate_dst (N := 2) rfl ?_); refine sqx 2 #[.bool a0_0, .slice A0_1 l0_1.length c0_1, .slice A0_2 l0_2.length c0_2, .slice A0_3 l0_3.length c0_3, .int .i64 a0_4, .slice A0_5 l0_5.length c0_5] 78 ?_; intro gb370 hg w68 hbox hb; have BK370 := Aside0.mk (hbox); have GW370 := sqg HB hg; have GE370 := sqg HB hg; replace HB := sqs HB hb; clear hb hbox hg) | ((with_reducible refine gate_dst (N := 3) rfl ?_); refine sqx 3 #[.bool a1_0, .slice A1_1 l1_1.length c1_1, .slice A1_2 l1_2.length c1_2, .slice A1_3 l1_3.length c1_3, .int .i64 a1_4, .slice A1_5 l1_5.length c1_5] 78 ?_; intro gb371 hg w69 hbox hb; have BK371 := Aside0.mk (hbox); have GW371 := sqg HB hg; have GE371 := sqg HB hg; have NB370_371 := sqn BK370 hg; have NB371_370 := sqm BK370 hg; replace BK370 := sqb BK370 hb; replace HB := sqs HB hb; clear hb hbox hg; have hnb70 := NB370_371.out; have hnc70 := NB371_370.out; have hcz71_0 : w69.cell? ⟨gb370, 0, none⟩ = some (.bool a0_0) := (blk_cell BK370.out 0).trans rfl; have hcz71_1 : w69.cell? ⟨gb370, 1, none⟩ = some (.slice A0_1 l0_1.length c0_1) := (blk_cell BK370.out 1).trans rfl; have hcz71_2 : w69.cell? ⟨gb370, 2, none⟩ = some (.slice A0_2 l0_2.length c0_2) := (blk_cell BK370.out 2).trans rfl; have hcz71_3 : w69.cell? ⟨gb370, 3, none⟩ = some (.slice A0_3 l0_3.length c0_3) := (blk_cell BK370.out 3).trans rfl; have hcz71_4 : w69.cell? ⟨gb370, 4, none⟩ = some (.int .i64 a0_4) := (blk_cell BK370.out 4).trans rfl; have hcz71_5 : w69.cell? ⟨gb370, 5, none⟩ = some (.slice A0_5 l0_5.length c0_5) := (blk_cell BK370.out 5).trans rfl; have hfz71_0 := blk_frozen BK370.out 0; have hfz71_1 := blk_frozen BK370.out 1; have hfz71_2 := blk_frozen BK370.out 2; have hfz71_3 := blk_frozen BK370.out 3; have hfz71_4 := blk_frozen BK370.out 4; have hfz71_5 := blk_frozen BK370.out 5; have hcz72_0 : w69.cell? ⟨gb371, 0, none⟩ = some (.bool a1_0) := (blk_cell BK371.out 0).trans rfl; have hcz72_1 : w69.cell? ⟨gb371, 1, none⟩ = some (.slice A1_1 l1_1.length c1_1) := (blk_cell BK371.out 1).trans rfl; have hcz72_2 : w69.cell? ⟨gb371, 2, none⟩ = some (.slice A1_2 l1_2.length c1_2) := (blk_cell BK371.out 2).trans rfl; have hcz72_3 : w69.cell? ⟨gb371, 3, none⟩ = some (.slice A1_3 l1_3.length c1_3) := (blk_cell BK371.out 3).trans rfl; have hcz72_4 : w69.cell? ⟨gb371, 4, none⟩ = some (.int .i64 a1_4) := (blk_cell BK371.out 4).trans rfl; have hcz72_5 : w69.cell? ⟨gb371, 5, none⟩ = some (.slice A1_5 l1_5.length c1_5) := (blk_cell BK371.out 5).trans rfl; have hfz72_0 := blk_frozen BK371.out 0; have hfz72_1 := blk_frozen BK371.out 1; have hfz72_2 := blk_frozen BK371.out 2; have hfz72_3 := blk_frozen BK371.out 3; have hfz72_4 := blk_frozen BK371.out 4; have hfz72_5 := blk_frozen BK371.out 5) | ((with_reducible refine gate_callee (f := 146) rfl ?_); refine sqL (some 14) Try.func146 #[.slice A0_1 l0_1.length c0_1, .slice A1_1 l1_1.length c1_1] ?_; (with_reducible refine (laws_eqValS.calls k _ _ l0_1 _ _ l1_1 false _ ?side1 ?side2 ?side3 ?side4 A9.out).mono ?_); (case side1 => repeat (first | exact (Kd.C_below HR0_1.out HB.out) | (with_reducible refine Kd.C_alloc ?_ _) | (with_reducible refine Kd.C_drewN ?_ _) | (with_reducible refine Kd.C_drew ?_))); (case side2 => exact HC0_1.out); (case side3 => repeat (first | exact (Kd.C_below HR1_1.out HB.out) | (with_reducible refine Kd.C_alloc ?_ _) | (with_reducible refine Kd.C_drewN ?_ _) | (with_reducible refine Kd.C_drew ?_))); (case side4 => exact HC1_1.out); rintro e w73 ⟨rfl, hb⟩; refine ⟨_, rfl, ?_⟩; replace BK370 := sqb BK370 hb; replace BK371 := sqb BK371 hb; replace HB := sqs HB hb; (try clear hb)))
   go_ret
   exact sqe HB

end Go.Proofs.Ytkekcenlleebeaa.PFnExactAbsOk
