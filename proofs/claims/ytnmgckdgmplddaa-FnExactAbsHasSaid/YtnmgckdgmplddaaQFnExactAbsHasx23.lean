/- Functions of the program as plain Lean functions, and that calls of them come to what these tell. Conditions: those in each law. -/
import Derived.Test.YtnmgckdgmplddaaSq
import Derived.Test.YtnmgckdgmplddaaCap
import Derived.Test.YtnmgckdgmplddaaDFnExactAbsHas
import Derived.Test.YtnmgckdgmplddaaQFnExactAbsHasx0
import Derived.Test.YtnmgckdgmplddaaQFnExactAbsHasx16
import Derived.Test.YtnmgckdgmplddaaQFnExactAbsHasx19
import Derived.Test.YtnmgckdgmplddaaQFnExactAbsHasx20
namespace Go.Proofs.Ytnmgckdgmplddaa.PFnExactAbsHas
open Go.RowKit Go.Proofs.Ytnmgckdgmplddaa.Sq Go.Proofs.YtnmgckdgmplddaaW.PrintWords Go.Proofs.YtnmgckdgmplddaaW.PrintLast Go.Proofs.YtnmgckdgmplddaaW.PrintMore
attribute [local go_sem] max2_int min2_int max_two min_two max_three min_three max_four min_four   -- for this text's walks alone
set_option linter.unusedVariables false
set_option linter.unusedSimpArgs false

/-! ### impl_GapsHas: function 33 -/
def impl_GapsHas.T18 : Bool × List (List Nat × List Nat) := (true, [([], []), ([0], [0]), ([], []), ([], []), ([], []), ([2, 3, 4], [2, 3, 4]), ([1, 5], [1, 5]), ([6], [6]), ([7, 5, 0, 1, 2, 3, 4, 5, 6, 7], [7])])
def impl_GapsHas.B18 : List Nat := [0, 1, 0, 0, 0, 28, 63, 127, 255]
theorem impl_GapsHas.tab18 : rtab .any (opsOf Try.f33 18) = impl_GapsHas.T18 := by kernel_rfl
theorem impl_GapsHas.bits18 : waitsOk impl_GapsHas.T18.2 impl_GapsHas.B18 = true := by kernel_rfl
set_option maxHeartbeats 8000000 in
set_option maxRecDepth 100000 in
theorem impl_GapsHas.calls (k : Nat) (a0_0 : Int) (A0_1 : Option Addr) (c0_1 : Nat) (l0_1 : List Int) (A1 : Option Addr) (c1 : Nat) (l1 : List Int) (r : Bool) (w : World) (hr0_1 : Kd.C (Kd.int .i64) w A0_1 l0_1.length l0_1) (hc0_1 : l0_1.length ≤ c0_1) (hr1 : Kd.C (Kd.int .i64) w A1 l1.length l1) (hc1 : l1.length ≤ c1) (h : impl_GapsHas.f k a0_0 l0_1 l1 = some r) :
  Calls Try.prog 33 #[.agg #[.int .i64 a0_0, .slice A0_1 l0_1.length c0_1], .slice A1 l1.length c1] w fun e w' => e = .returned (.bool r) ∧ Below w.heap.size w w' := by
 have hu37 := Try.underlying37
 have HR0_1 := Aside0.mk hr0_1
 have HC0_1 := Aside0.mk hc0_1
 clear hr0_1 hc0_1
 have HR1 := Aside0.mk hr1
 have HC1 := Aside0.mk hc1
 clear hr1 hc1
 have HB := Aside0.mk (Below.refl w.heap.size w)
 have H := h
 unfold impl_GapsHas.f at H
 clear h
 have HC3 := Aside0.mk H
 clear H
 go_enter Try.func33, Try.ntmps33
 go_upto_region 1 with (first | ((with_reducible refine gate_dst (N := 2) rfl ?_); (try (refine gate_guard (by rfl) ?_; dsimp only)); refine sqx 2 #[.int .i64 a0_0, .slice A0_1 l0_1.length c0_1] 37 ?_; intro gb437 hg w4 hbox hb; have BK437 := Aside0.mk hbox; have GW437 := sqg HB hg; have GE437 := sqg HB hg; replace HB := sqs HB hb; clear hb hbox hg))
 (try simp only [Act.put, List.setIfInBounds_toArray, List.set_cons_zero, List.set_cons_succ])
 go_cut [22] (fun v22 wc => ∃ (kq : Nat) (x22_2 : Bool), v22 = .bool x22_2 ∧ Aside0 (impl_GapsHas.j0 kq l1 x22_2 a0_0 l0_1 = some r) ∧ Aside0 (kq ≤ k) ∧ Aside0 (wc.heap[gb437]? = some (.cells #[.int .i64 a0_0, (.slice A0_1 l0_1.length c0_1)] 37 (0, 0))) ∧ Aside0 (Below w.heap.size w wc))
 case first =>
  have H := HC3.out
  clear HC3
  replace H := Option.bind_eq_some_iff.mp H
  obtain ⟨t438, A50, H⟩ := H
  try dsimp only at H
  have A5 := Aside0.mk A50
  clear A50
  rcases sqI (t438 = true) with c6 | c6
  ·replace c6 := Bool.eq_false_iff.mpr c6
   subst c6
   have H1 : (impl_GapsHas.j0 k l1 true a0_0 l0_1) = some r := by rw [if_neg (show ¬ (false = true) by decide)] at H; exact H
   clear H
   have H := H1
   clear H1
   have H' := Aside0.mk H
   clear H
   obtain ⟨hcz10_0, hcz10_1, hfz10_0, hfz10_1⟩ := sqc2 BK437
   go_wp2_with (first | ((with_reducible refine gate_callee (f := 59) rfl ?_); refine sqL (some 14) Try.func59 #[.agg #[.int .i64 a0_0, .slice A0_1 l0_1.length c0_1]] ?_; (with_reducible refine (impl_GapsOk.calls k a0_0 _ _ l0_1 false _ ?side1 ?side2 A5.out).mono ?_); (case side1 => exact sqC (Kd.C_below HR0_1.out HB.out)); (case side2 => exact HC0_1.out); rintro e w11 ⟨rfl, hb⟩; refine ⟨_, rfl, ?_⟩; replace BK437 := sqb BK437 hb; replace HB := sqs HB hb; (try clear hb)))
   go_meet
   case rel => exact ⟨_, (true), (by first | rfl | (simp; done) | (simp [*]; done)), H', ⟨by first | omega | exact Nat.le_refl _⟩, sqk BK437, sqh HB⟩
  subst c6
  have H1 : (impl_GapsHas.j0 k l1 ((l1.length : Int) != a0_0) a0_0 l0_1) = some r := by rw [if_pos rfl] at H; exact H
  clear H
  have H := H1
  clear H1
  have H' := Aside0.mk H
  clear H
  obtain ⟨hcz7_0, hcz7_1, hfz7_0, hfz7_1⟩ := sqc2 BK437
  go_wp2_with (first | ((with_reducible refine gate_callee (f := 59) rfl ?_); refine sqL (some 14) Try.func59 #[.agg #[.int .i64 a0_0, .slice A0_1 l0_1.length c0_1]] ?_; (with_reducible refine (impl_GapsOk.calls k a0_0 _ _ l0_1 true _ ?side1 ?side2 A5.out).mono ?_); (case side1 => exact sqC (Kd.C_below HR0_1.out HB.out)); (case side2 => exact HC0_1.out); rintro e w8 ⟨rfl, hb⟩; refine ⟨_, rfl, ?_⟩; replace BK437 := sqb BK437 hb; replace HB := sqs HB hb; (try clear hb); obtain ⟨hcz9_0, hcz9_1, hfz9_0, hfz9_1⟩ := sqc2 BK437))
  go_meet
  case rel => exact ⟨_, (((l1.length : Int) != a0_0)), (by first | rfl | (simp; done) | (simp [*]; done)), H', ⟨by first | omega | exact Nat.le_refl _⟩, sqk BK437, sqh HB⟩
 case rest =>
  clear HC3
  obtain ⟨kq, x22_2, rfl, HA, HJ2, BK437, HB⟩ := hcut
  cases kq with
  | zero => exact absurd HA.out (by simp [impl_GapsHas.j0])
  | succ kj2 =>
   have H := HA.out
   clear HA
   simp only [impl_GapsHas.j0] at H
   by_cases c12 : x22_2 = true
   ·subst c12
    have H1 : (some false) = some r := by rw [if_pos rfl] at H; exact H
    clear H
    have H := H1
    clear H1
    obtain rfl := Option.some.inj H
    go_wp2
    go_ret
    exact sqe HB
   replace c12 := Bool.eq_false_iff.mpr c12
   subst c12
   have H1 : (if 0 ≤ (wrap64 (a0_0 + 1)) then (if (wrap64 (a0_0 + 1) : Int).toNat ≤ 35184372088832 then ((some (List.replicate 0 0 : List Int)).bind fun y439 => (if y439.length < 17592186044416 then (impl_GapsHas.l0 kj2 (y439 ++ [0]) l1 (l1.length : Int) 0 a0_0 l0_1) else (none))) else (none)) else (none)) = some r := by rw [if_neg (show ¬ (false = true) by decide)] at H; exact H
   clear H
   have H := H1
   clear H1
   obtain ⟨ji13, hji13⟩ : ∃ j_ : Int, (wrap64 (a0_0 + 1)) = j_ := ⟨_, rfl⟩
   replace H : (if 0 ≤ (ji13) then (if (ji13 : Int).toNat ≤ 35184372088832 then ((some (List.replicate 0 0 : List Int)).bind fun y439 => (if y439.length < 17592186044416 then (impl_GapsHas.l0 kj2 (y439 ++ [0]) l1 (l1.length : Int) 0 a0_0 l0_1) else (none))) else (none)) else (none)) = some r := by first | (rw [hji13] at H; exact H) | (simp only [hji13] at H ⊢; exact H)
   have hji13w : (IntKind.i64.wrap (a0_0 + 1)) = ji13 := (i64_w _).trans hji13
   replace H := sqi H
   rcases H with ⟨c14, H⟩ | ⟨c14, H⟩
   ·exact absurd H (by simp)
   have c14b0 := eq_true c14
   have c14b1 := decide_eq_true c14
   clear c14
   replace H := sqi H
   rcases H with ⟨c15, H⟩ | ⟨c15, H⟩
   ·exact absurd H (by simp)
   have c15b0 := eq_true c15
   have c15b1 := decide_eq_true c15
   clear c15
   obtain ⟨y439, hy439⟩ : ∃ y_ : List Int, y_ = (List.replicate 0 0) := ⟨_, rfl⟩
   replace H : (if y439.length < 17592186044416 then (impl_GapsHas.l0 kj2 (y439 ++ [0]) l1 (l1.length : Int) 0 a0_0 l0_1) else (none)) = some r := by first | (rw [hy439]; with_reducible exact H) | (have H2_ := (Option.bind_some _ _).symm.trans H; rw [hy439]; with_reducible exact H2_) | (have H2_ := (Option.bind_some _ _).symm.trans H; with_reducible exact H2_) | with_reducible exact H | (rw [hy439]; exact H) | exact H
   have Ny439 := Aside0.mk hy439
   clear hy439
   replace H := sqi H
   rcases H with ⟨c16, H⟩ | ⟨c16, H⟩
   ·exact absurd H (by simp)
   have LMc16 := Aside0.mk c16
   clear c16
   obtain ⟨y442, hy442⟩ : ∃ y_ : List Int, y_ = (y439 ++ [0]) := ⟨_, rfl⟩
   replace H : (impl_GapsHas.l0 kj2 y442 l1 (l1.length : Int) 0 a0_0 l0_1) = some r := by first | (rw [hy442]; with_reducible exact H) | (have H2_ := (Option.bind_some _ _).symm.trans H; rw [hy442]; with_reducible exact H2_) | (have H2_ := (Option.bind_some _ _).symm.trans H; with_reducible exact H2_) | with_reducible exact H | (rw [hy442]; exact H) | exact H
   have Ny442 := Aside0.mk hy442
   clear hy442
   have H' := Aside0.mk H
   clear H
   obtain ⟨hcz17_0, hcz17_1, hfz17_0, hfz17_1⟩ := sqc2 BK437
   go_wp2_with (first | ((with_reducible refine gate_dst (N := 26) rfl ?_); (try (refine gate_guard (by rfl) ?_; dsimp only)); refine Kd.R_makec (Kd.int .i64) _ 3 rfl (N := 26) rfl 24 _ _ rfl 0 ji13 rfl rfl Try.underlying24 (.int .i64 0) 8 info3 rfl (by decide) (by omega) 0 (ok := fun _ => True) (okp := fun _ => True) rfl (fun _ hk => hk) trivial (by omega) sqd (Nat.le_trans (Nat.mul_le_mul_right _ (sqd : ji13.toNat ≤ 35184372088832)) (by omega)) (Below.refl _ _) (Nat.le_refl _) ?_; intro v440 w18 ho19 hb hg_ hnew_; clear hg_ hnew_; (first | rw [← Ny439.out] at ho19 | (simp only [Int.reduceToNat] at ho19; rw [← Ny439.out] at ho19)); have HO441 := Aside0.mk (Kd.R_lower ho19 (below_size (sqB HB))); replace BK437 := sqb BK437 hb; replace HB := sqs HB hb; clear hb ho19) | ((with_reducible refine gate_builtin (b := .append) (xs := #[.tmp 27, .tmp 28]) rfl ?_); (try (refine gate_guard (by rfl) ?_; dsimp only)); at_builtin; refine Kd.R_append (Kd.int .i64) (w0 := w) w.heap.size rfl (.tmp 27) (.tmp 28) 24 3 (.int .i64 0) 8 rfl Try.underlying24 info3 rfl (by decide) (by omega) v440 y439 0 [.int .i64 0] (fun _ => True) (fun _ => False) rfl rfl ?aP (fun _ hk => hk.elim) ?aF ?aO ?aB ?aS ?aL ?_; (case aP => exact rfl); (case aB => exact (sqB HB)); (case aF => exact (fun _ _ => trivial)); (case aO => exact (sqy HO441.out)); (case aS => exact (below_size (sqB HB))); (case aL => have := LMc16.out; omega); intro v443 w20 ho hb hg hat; rw [← Ny442.out] at ho; have n0_ := Aside0.mk (blk_grown (g := gb437) (o := .cells #[.int .i64 a0_0, .slice A0_1 l0_1.length c0_1] 37 (0, 0)) (sqt BK437.out) hg (Kd.R_ne HO441.out BK437.out (by decide))); have n1_ := Aside0.mk (hb); have n2_ := Aside0.mk (ho); clear BK437; clear HB; clear HO441; have BK437 := n0_; have HB := n1_; have HO444 := n2_; clear n0_ n1_ n2_; clear ho hb hg hat))
   go_loopg [5, 32] kj2 (fun kq v5 v32 w' => ∃ (x5_2 : List Int) (x32_2 : Int), v32 = .int .i64 x32_2 ∧ Aside0 (impl_GapsHas.l0 kq x5_2 l1 (l1.length : Int) x32_2 a0_0 l0_1 = some r) ∧ Aside0 (kq ≤ kj2) ∧ Aside0 (Kd.R (Kd.int .i64) 3 w' w.heap.size (fun _ => True) v5 x5_2) ∧ Aside0 (w'.heap[gb437]? = some (.cells #[.int .i64 a0_0, (.slice A0_1 l0_1.length c0_1)] 37 (0, 0))) ∧ Aside0 (Below w.heap.size w w'))
   case atStart => exact ⟨(y442), (0), (by first | rfl | (simp; done) | (simp [*]; done)), H', ⟨Nat.le_refl _⟩, ⟨sqy HO444.out⟩, sqk BK437, sqh HB⟩
   case round =>
    clear H'
    obtain ⟨x5_2, x32_2, rfl, HA, HK2, HO_5, BK437, HB⟩ := hrel
    cases gk with
    | zero => exact absurd HA.out (by simp [impl_GapsHas.l0])
    | succ k2 =>
     have H := HA.out
     clear HA
     simp only [impl_GapsHas.l0] at H
     replace H := sqj H
     rcases H with ⟨c21, H⟩ | ⟨c21, H⟩
     ·have c21b0 := decide_eq_true c21
      clear c21
      replace H := sqi H
      rcases H with ⟨c22, H⟩ | ⟨c22, H⟩
      ·exact absurd H (by simp)
      have c22b0 := decide_eq_true c22
      clear c22
      replace H := sqi H
      rcases H with ⟨c23, H⟩ | ⟨c23, H⟩
      ·exact absurd H (by simp)
      have c23b0 := decide_eq_true c23
      clear c23
      replace H := Option.bind_eq_some_iff.mp H
      obtain ⟨t446, A240, H⟩ := H
      try dsimp only at H
      have A24 := Aside0.mk A240
      clear A240
      rcases sqI (t446 = true) with c25 | c25
      ·replace c25 := Bool.eq_false_iff.mpr c25
       subst c25
       have H1 : (some false) = some r := by rw [if_neg (show ¬ (false = true) by decide)] at H; exact H
       clear H
       have H := H1
       clear H1
       obtain rfl := Option.some.inj H
       have p445 : 0 ≤ (x32_2 : Int) := sqd
       have q445 : x32_2 < (l1.length : Int) := sqd
       obtain ⟨ad445, e445, hx445_0⟩ := Kd.at_int HR1.out x32_2 p445 q445
       cases e445
       replace hx445_0 := sqa HB hx445_0
       replace p445 := eq_true p445
       replace q445 := eq_true q445
       go_wp2_with (first | ((with_reducible refine gate_callee (f := 64) rfl ?_); refine sqL (some 37) Try.func64 #[.int .i64 (rd l1 x32_2)] ?_; (with_reducible refine (impl_NumOk.calls (rd l1 x32_2) false _ A24.out).mono ?_); rintro e w' ⟨rfl, ⟨nd, rfl⟩⟩; refine ⟨_, rfl, ?_⟩))
       go_ret
       exact ⟨by first | rfl | (simp [errW_none, errW_some] <;> rfl) | (simp only [← hji13]; first | rfl | (simp [errW_none, errW_some] <;> rfl)) | (simp [*, errW_none, errW_some] <;> rfl), sqB HB⟩
      subst c25
      have H1 : (if x5_2.length < 17592186044416 then (impl_GapsHas.l0 k2 (x5_2 ++ [rd l1 x32_2]) l1 (l1.length : Int) (wrap64 (x32_2 + 1)) a0_0 l0_1) else (none)) = some r := by rw [if_pos rfl] at H; exact H
      clear H
      have H := H1
      clear H1
      replace H := sqi H
      rcases H with ⟨c26, H⟩ | ⟨c26, H⟩
      ·exact absurd H (by simp)
      have LMc26 := Aside0.mk c26
      clear c26
      obtain ⟨y447, hy447⟩ : ∃ y_ : List Int, y_ = (x5_2 ++ [rd l1 x32_2]) := ⟨_, rfl⟩
      replace H : (impl_GapsHas.l0 k2 y447 l1 (l1.length : Int) (wrap64 (x32_2 + 1)) a0_0 l0_1) = some r := by first | (rw [hy447]; with_reducible exact H) | (have H2_ := (Option.bind_some _ _).symm.trans H; rw [hy447]; with_reducible exact H2_) | (have H2_ := (Option.bind_some _ _).symm.trans H; with_reducible exact H2_) | with_reducible exact H | (rw [hy447]; exact H) | exact H
      have Ny447 := Aside0.mk hy447
      clear hy447
      have H' := Aside0.mk H
      clear H
      have p445 : 0 ≤ (x32_2 : Int) := sqd
      have q445 : x32_2 < (l1.length : Int) := sqd
      obtain ⟨ad445, e445, hx445_0⟩ := Kd.at_int HR1.out x32_2 p445 q445
      cases e445
      replace hx445_0 := sqa HB hx445_0
      replace p445 := eq_true p445
      replace q445 := eq_true q445
      go_wp2_with (first | ((with_reducible refine gate_callee (f := 64) rfl ?_); refine sqL (some 37) Try.func64 #[.int .i64 (rd l1 x32_2)] ?_; (with_reducible refine (impl_NumOk.calls (rd l1 x32_2) true _ A24.out).mono ?_); rintro e w' ⟨rfl, ⟨nd, rfl⟩⟩; refine ⟨_, rfl, ?_⟩) | ((with_reducible refine gate_builtin (b := .append) (xs := #[.tmp 39, .tmp 41]) rfl ?_); (try (refine gate_guard (by rfl) ?_; dsimp only)); at_builtin; refine Kd.R_append (Kd.int .i64) (w0 := w) w.heap.size rfl (.tmp 39) (.tmp 41) 24 3 (.int .i64 0) 8 rfl Try.underlying24 info3 rfl (by decide) (by omega) u5 x5_2 (rd l1 x32_2) [.int .i64 (rd l1 x32_2)] (fun _ => True) (fun _ => False) rfl rfl ?aP (fun _ hk => hk.elim) ?aF ?aO ?aB ?aS ?aL ?_; (case aP => exact rfl); (case aB => exact (sqB HB)); (case aF => exact (fun _ _ => trivial)); (case aO => exact (sqy HO_5.out)); (case aS => exact (below_size (sqB HB))); (case aL => have := LMc26.out; omega); intro v448 w27 ho hb hg hat; rw [← Ny447.out] at ho; have n0_ := Aside0.mk (blk_grown (g := gb437) (o := .cells #[.int .i64 a0_0, .slice A0_1 l0_1.length c0_1] 37 (0, 0)) (sqt BK437.out) hg (Kd.R_ne HO_5.out BK437.out (by decide))); have n1_ := Aside0.mk (hb); have n2_ := Aside0.mk (ho); clear BK437; clear HB; clear HO_5; have BK437 := n0_; have HB := n1_; have HO449 := n2_; clear n0_ n1_ n2_; clear ho hb hg hat))
      go_roundg k2
      case measure => have := HJ2.out; have := HK2.out; omega
      case rel => exact ⟨(y447), (wrap64 (x32_2 + 1)), (by first | rfl | (simp; done) | (simp [*]; done)), H', ⟨by have := HJ2.out; have := HK2.out; omega⟩, ⟨sqy HO449.out⟩, sqk BK437, sqh HB⟩
     have c21b0 := decide_eq_false c21
     clear c21
     have H' := Aside0.mk H
     clear H
     obtain ⟨Ao28, co28, eo28⟩ := Kd.R_slice HO_5.out
     subst eo28
     go_wp2
     go_loopg [46] k2 (fun kq v46 w' => ∃ (x46_3 : Int), v46 = .int .i64 x46_3 ∧ Aside0 (impl_GapsHas.l1 kq x5_2 x5_2 (x5_2.length : Int) x46_3 a0_0 l0_1 = some r) ∧ Aside0 (kq ≤ k2) ∧ Aside0 (Kd.R (Kd.int .i64) 3 w' w.heap.size (fun _ => True) (.slice Ao28 x5_2.length co28) x5_2) ∧ Aside0 (Kd.R (Kd.int .i64) 3 w' w.heap.size (fun _ => True) (.slice Ao28 x5_2.length co28) x5_2) ∧ Aside0 (w'.heap[gb437]? = some (.cells #[.int .i64 a0_0, (.slice A0_1 l0_1.length c0_1)] 37 (0, 0))) ∧ Aside0 (Below w.heap.size w w'))
     case atStart => exact ⟨(0), (by first | rfl | (simp; done) | (simp [*]; done)), H', ⟨Nat.le_refl _⟩, ⟨sqy HO_5.out⟩, ⟨sqy HO_5.out⟩, sqk BK437, sqh HB⟩
     case round =>
      clear H'
      obtain ⟨x46_3, rfl, HA, HK3, HO_5, HO_44, BK437, HB⟩ := hrel
      cases gk with
      | zero => exact absurd HA.out (by simp [impl_GapsHas.l1])
      | succ k3 =>
       have H := HA.out
       clear HA
       simp only [impl_GapsHas.l1] at H
       replace H := sqi H
       rcases H with ⟨c29, H⟩ | ⟨c29, H⟩
       ·have c29b0 := decide_eq_false c29
        clear c29
        obtain rfl := Option.some.inj H
        go_wp2
        go_ret
        exact ⟨by first | rfl | (simp [errW_none, errW_some] <;> rfl) | (simp only [← hji13]; first | rfl | (simp [errW_none, errW_some] <;> rfl)) | (simp [*, errW_none, errW_some] <;> rfl), sqB HB⟩
       have c29b0 := decide_eq_true c29
       clear c29
       replace H := sqi H
       rcases H with ⟨c30, H⟩ | ⟨c30, H⟩
       ·exact absurd H (by simp)
       have c30b0 := decide_eq_true c30
       clear c30
       replace H := sqi H
       rcases H with ⟨c31, H⟩ | ⟨c31, H⟩
       ·exact absurd H (by simp)
       have c31b0 := decide_eq_true c31
       clear c31
       have H' := Aside0.mk H
       clear H
       have p450 : 0 ≤ (x46_3 : Int) := sqd
       have q450 : x46_3 < (x5_2.length : Int) := sqd
       obtain ⟨ad450, e450, hx450_0⟩ := Kd.at_int (Kd.R_reads' HO_44.out).2.2 x46_3 p450 q450
       cases e450
       replace p450 := eq_true p450
       replace q450 := eq_true q450
       go_wp2
       go_loopg [53] k3 (fun kq v53 w' => ∃ (x53_4 : Int), v53 = .int .i64 x53_4 ∧ Aside0 (impl_GapsHas.l2 kq x5_2 x46_3 (rd x5_2 x46_3) x5_2 (x5_2.length : Int) x46_3 x5_2 (x5_2.length : Int) x53_4 a0_0 l0_1 = some r) ∧ Aside0 (kq ≤ k3) ∧ Aside0 (Kd.R (Kd.int .i64) 3 w' w.heap.size (fun _ => True) (.slice (some ad450) x5_2.length co28) x5_2) ∧ Aside0 (Kd.R (Kd.int .i64) 3 w' w.heap.size (fun _ => True) (.slice (some ad450) x5_2.length co28) x5_2) ∧ Aside0 (Kd.R (Kd.int .i64) 3 w' w.heap.size (fun _ => True) (.slice (some ad450) x5_2.length co28) x5_2) ∧ Aside0 (w'.heap[gb437]? = some (.cells #[.int .i64 a0_0, (.slice A0_1 l0_1.length c0_1)] 37 (0, 0))) ∧ Aside0 (Below w.heap.size w w'))
       case atStart => exact ⟨(0), (by first | rfl | (simp; done) | (simp [*]; done)), H', ⟨Nat.le_refl _⟩, ⟨sqy HO_5.out⟩, ⟨sqy HO_44.out⟩, ⟨sqy HO_5.out⟩, sqk BK437, sqh HB⟩
       case round =>
        clear H'
        obtain ⟨x53_4, rfl, HA, HK4, HO_5, HO_44, HO_51, BK437, HB⟩ := hrel
        cases gk with
        | zero => exact absurd HA.out (by simp [impl_GapsHas.l2])
        | succ k4 =>
         have H := HA.out
         clear HA
         simp only [impl_GapsHas.l2] at H
         replace H := sqi H
         rcases H with ⟨c32, H⟩ | ⟨c32, H⟩
         ·have c32b0 := decide_eq_false c32
          clear c32
          have H' := Aside0.mk H
          clear H
          go_wp2
          go_roundg k4
          case measure => have := HJ2.out; have := HK2.out; have := HK3.out; have := HK4.out; omega
          case rel => exact ⟨(wrap64 (x46_3 + 1)), (by first | rfl | (simp; done) | (simp [*]; done)), H', ⟨by have := HJ2.out; have := HK2.out; have := HK3.out; have := HK4.out; omega⟩, ⟨sqy HO_5.out⟩, ⟨sqy HO_44.out⟩, sqk BK437, sqh HB⟩
         have c32b0 := decide_eq_true c32
         clear c32
         replace H := sqi H
         rcases H with ⟨c33, H⟩ | ⟨c33, H⟩
         ·exact absurd H (by simp)
         have c33b0 := decide_eq_true c33
         clear c33
         replace H := sqi H
         rcases H with ⟨c34, H⟩ | ⟨c34, H⟩
         ·exact absurd H (by simp)
         have c34b0 := decide_eq_true c34
         clear c34
         replace H := Option.bind_eq_some_iff.mp H
         obtain ⟨t452, A350, H⟩ := H
         try dsimp only at H
         have A35 := Aside0.mk A350
         clear A350
         replace H := sqi H
         rcases H with ⟨c36, H⟩ | ⟨c36, H⟩
         ·exact absurd H (by simp)
         have c36b0 := decide_eq_true c36
         clear c36
         replace H := sqi H
         rcases H with ⟨c37, H⟩ | ⟨c37, H⟩
         ·exact absurd H (by simp)
         have c37b0 := decide_eq_true c37
         clear c37
         replace H := sqj H
         rcases H with ⟨c38, H⟩ | ⟨c38, H⟩
         ·have c38b0 : ((rd l0_1 t452) == 1099511627776) = true := beq_iff_eq.mpr c38
          have c38b1 : ((rd l0_1 t452) != 1099511627776) = false := bne_eq_false_iff_eq.mpr c38
          clear c38
          have H' := Aside0.mk H
          clear H
          have p451 : 0 ≤ (x53_4 : Int) := sqd
          have q451 : x53_4 < (x5_2.length : Int) := sqd
          obtain ⟨ad451, e451, hx451_0⟩ := Kd.at_int (Kd.R_reads' HO_51.out).2.2 x53_4 p451 q451
          obtain rfl : ad450 = ad451 := (by injection e451)
          replace p451 := eq_true p451
          replace q451 := eq_true q451
          try go_wp2
          replace HO_5 := Aside0.mk (Kd.R_drew HO_5.out)
          replace HO_44 := Aside0.mk (Kd.R_drew HO_44.out)
          replace HO_51 := Aside0.mk (Kd.R_drew HO_51.out)
          replace BK437 := Aside0.mk (blk_drew BK437.out)
          replace HB := Aside0.mk (below_drew1 HB.out)
          have p453 : 0 ≤ (t452 : Int) := sqd
          have q453 : t452 < (l0_1.length : Int) := sqd
          obtain ⟨ad453, e453, hx453_0⟩ := Kd.at_int HR0_1.out t452 p453 q453
          have hw453_0 := hx453_0
          cases e453
          replace hx453_0 := sqa HB hx453_0
          replace p453 := eq_true p453
          replace q453 := eq_true q453
          refine start_ (n := 9) (S := fun w' => w'.cell? ⟨gb437, 0, none⟩ = some (.int .i64 a0_0) ∧ w'.cell? ⟨gb437, 1, none⟩ = some (.slice (some ad453) l0_1.length c0_1) ∧ w'.cell? (ad453.add (t452).toNat) = some (.int .i64 (rd l0_1 t452))) (ds := []) #[false, false, false, false, false, false, false, false, false] (by kernel_rfl) rfl rfl ⟨(blk_cell BK437.out 0).trans rfl, (blk_cell BK437.out 1).trans rfl, (sqa HB hw453_0 :)⟩ (fun hHeld => ?_); refine with_tabW impl_GapsHas.tab18 impl_GapsHas.bits18 (fun HT_ HW_ => ?_)
          generalize wr.drew = w39 at HO_5 HO_44 HO_51 BK437 HB hx453_0 hHeld ⊢
          refine sqp HT_ 0 58 ?_
          refine sqp HT_ 3 61 ?_
          refine sqp HT_ 4 62 ?_
          refine sqw HT_ HW_ 1 59 hHeld ?_
          refine sqw HT_ HW_ 2 60 hHeld ?_
          refine sqo HT_ 5 63 (fun K hK => ?_)
          refine sqG Try.func65 #[.agg #[.int .i64 a0_0, .slice (some ad453) l0_1.length c0_1], .int .i64 x46_3, .int .i64 x53_4] ?_
          with_reducible refine (impl_Gaps_at.calls a0_0 _ _ l0_1 x46_3 x53_4 t452 _ ?side1 ?side2 A35.out).mono ?_
          (case side1 => exact sqC (Kd.C_below HR0_1.out HB.out))
          (case side2 => exact HC0_1.out)
          rintro e w40 ⟨rfl, hb⟩
          refine ⟨_, rfl, ?_⟩
          have n0_ := Aside0.mk (Kd.R_below (sqy HO_5.out) hb)
          have n1_ := Aside0.mk (Kd.R_below (sqy HO_44.out) hb)
          have n2_ := Aside0.mk (Kd.R_below (sqy HO_51.out) hb)
          have n3_ := sqb BK437 hb
          have n4_ := sqs HB hb
          clear HO_5
          clear HO_44
          clear HO_51
          clear BK437
          clear HB
          have HO_5 := n0_
          have HO_44 := n1_
          have HO_51 := n2_
          have BK437 := n3_
          have HB := n4_
          clear n0_ n1_ n2_ n3_ n4_
          (try clear hb)
          refine hK.out _ _ ⟨(blk_cell BK437.out 0).trans rfl, (blk_cell BK437.out 1).trans rfl, (sqa HB hw453_0 :)⟩ (fun hHeld => ?_)
          clear hK K
          refine sqnm ?_
          refine sqp HT_ 6 64 ?_
          refine sqw HT_ HW_ 7 65 hHeld ?_
          refine sqp HT_ 8 12 ?_
          refine done_ (done_of HT_.out (by kernel_rfl)) ?_
          try go_wp2
          go_roundg k4
          case measure => have := HJ2.out; have := HK2.out; have := HK3.out; have := HK4.out; omega
          case rel => exact ⟨(wrap64 (x53_4 + 1)), (by first | rfl | (simp; done) | (simp [*]; done)), H', ⟨by have := HJ2.out; have := HK2.out; have := HK3.out; have := HK4.out; omega⟩, ⟨sqy HO_5.out⟩, ⟨sqy HO_44.out⟩, ⟨sqy HO_51.out⟩, sqk BK437, sqh HB⟩
         have c38b0 : ((rd l0_1 t452) == 1099511627776) = false := beq_eq_false_iff_ne.mpr c38
         have c38b1 : ((rd l0_1 t452) != 1099511627776) = true := bne_iff_ne.mpr c38
         replace H := sqj H
         rcases H with ⟨c41, H⟩ | ⟨c41, H⟩
         ·have c41b0 : decide ((rd l0_1 t452) < (wrap64 ((rd x5_2 x46_3) - (rd x5_2 x53_4)))) = true := decide_eq_true c41
          clear c41
          obtain rfl := Option.some.inj H
          have p451 : 0 ≤ (x53_4 : Int) := sqd
          have q451 : x53_4 < (x5_2.length : Int) := sqd
          obtain ⟨ad451, e451, hx451_0⟩ := Kd.at_int (Kd.R_reads' HO_51.out).2.2 x53_4 p451 q451
          obtain rfl : ad450 = ad451 := (by injection e451)
          replace p451 := eq_true p451
          replace q451 := eq_true q451
          try go_wp2
          replace HO_5 := Aside0.mk (Kd.R_drew HO_5.out)
          replace HO_44 := Aside0.mk (Kd.R_drew HO_44.out)
          replace HO_51 := Aside0.mk (Kd.R_drew HO_51.out)
          replace BK437 := Aside0.mk (blk_drew BK437.out)
          replace HB := Aside0.mk (below_drew1 HB.out)
          have p453 : 0 ≤ (t452 : Int) := sqd
          have q453 : t452 < (l0_1.length : Int) := sqd
          obtain ⟨ad453, e453, hx453_0⟩ := Kd.at_int HR0_1.out t452 p453 q453
          have hw453_0 := hx453_0
          cases e453
          replace hx453_0 := sqa HB hx453_0
          replace p453 := eq_true p453
          replace q453 := eq_true q453
          refine start_ (n := 9) (S := fun w' => w'.cell? ⟨gb437, 0, none⟩ = some (.int .i64 a0_0) ∧ w'.cell? ⟨gb437, 1, none⟩ = some (.slice (some ad453) l0_1.length c0_1) ∧ w'.cell? (ad453.add (t452).toNat) = some (.int .i64 (rd l0_1 t452))) (ds := []) #[false, false, false, false, false, false, false, false, false] (by kernel_rfl) rfl rfl ⟨(blk_cell BK437.out 0).trans rfl, (blk_cell BK437.out 1).trans rfl, (sqa HB hw453_0 :)⟩ (fun hHeld => ?_); refine with_tabW impl_GapsHas.tab18 impl_GapsHas.bits18 (fun HT_ HW_ => ?_)
          generalize wr.drew = w42 at HO_5 HO_44 HO_51 BK437 HB hx453_0 hHeld ⊢
          refine sqp HT_ 0 58 ?_
          refine sqp HT_ 3 61 ?_
          refine sqp HT_ 4 62 ?_
          refine sqw HT_ HW_ 1 59 hHeld ?_
          refine sqw HT_ HW_ 2 60 hHeld ?_
          refine sqo HT_ 5 63 (fun K hK => ?_)
          refine sqG Try.func65 #[.agg #[.int .i64 a0_0, .slice (some ad453) l0_1.length c0_1], .int .i64 x46_3, .int .i64 x53_4] ?_
          with_reducible refine (impl_Gaps_at.calls a0_0 _ _ l0_1 x46_3 x53_4 t452 _ ?side1 ?side2 A35.out).mono ?_
          (case side1 => exact sqC (Kd.C_below HR0_1.out HB.out))
          (case side2 => exact HC0_1.out)
          rintro e w43 ⟨rfl, hb⟩
          refine ⟨_, rfl, ?_⟩
          have n0_ := Aside0.mk (Kd.R_below (sqy HO_5.out) hb)
          have n1_ := Aside0.mk (Kd.R_below (sqy HO_44.out) hb)
          have n2_ := Aside0.mk (Kd.R_below (sqy HO_51.out) hb)
          have n3_ := sqb BK437 hb
          have n4_ := sqs HB hb
          clear HO_5
          clear HO_44
          clear HO_51
          clear BK437
          clear HB
          have HO_5 := n0_
          have HO_44 := n1_
          have HO_51 := n2_
          have BK437 := n3_
          have HB := n4_
          clear n0_ n1_ n2_ n3_ n4_
          (try clear hb)
          refine hK.out _ _ ⟨(blk_cell BK437.out 0).trans rfl, (blk_cell BK437.out 1).trans rfl, (sqa HB hw453_0 :)⟩ (fun hHeld => ?_)
          clear hK K
          refine sqnm ?_
          refine sqp HT_ 6 64 ?_
          refine sqw HT_ HW_ 7 65 hHeld ?_
          refine sqp HT_ 8 12 ?_
          refine done_ (done_of HT_.out (by kernel_rfl)) ?_
          try go_wp2
          go_ret
          exact ⟨by first | rfl | (simp [errW_none, errW_some] <;> rfl) | (simp only [← hji13]; first | rfl | (simp [errW_none, errW_some] <;> rfl)) | (simp [*, errW_none, errW_some] <;> rfl), sqB HB⟩
         have c41b0 : decide ((rd l0_1 t452) < (wrap64 ((rd x5_2 x46_3) - (rd x5_2 x53_4)))) = false := decide_eq_false c41
         clear c41
         have H' := Aside0.mk H
         clear H
         have p451 : 0 ≤ (x53_4 : Int) := sqd
         have q451 : x53_4 < (x5_2.length : Int) := sqd
         obtain ⟨ad451, e451, hx451_0⟩ := Kd.at_int (Kd.R_reads' HO_51.out).2.2 x53_4 p451 q451
         obtain rfl : ad450 = ad451 := (by injection e451)
         replace p451 := eq_true p451
         replace q451 := eq_true q451
         try go_wp2
         replace HO_5 := Aside0.mk (Kd.R_drew HO_5.out)
         replace HO_44 := Aside0.mk (Kd.R_drew HO_44.out)
         replace HO_51 := Aside0.mk (Kd.R_drew HO_51.out)
         replace BK437 := Aside0.mk (blk_drew BK437.out)
         replace HB := Aside0.mk (below_drew1 HB.out)
         have p453 : 0 ≤ (t452 : Int) := sqd
         have q453 : t452 < (l0_1.length : Int) := sqd
         obtain ⟨ad453, e453, hx453_0⟩ := Kd.at_int HR0_1.out t452 p453 q453
         have hw453_0 := hx453_0
         cases e453
         replace hx453_0 := sqa HB hx453_0
         replace p453 := eq_true p453
         replace q453 := eq_true q453
         refine start_ (n := 9) (S := fun w' => w'.cell? ⟨gb437, 0, none⟩ = some (.int .i64 a0_0) ∧ w'.cell? ⟨gb437, 1, none⟩ = some (.slice (some ad453) l0_1.length c0_1) ∧ w'.cell? (ad453.add (t452).toNat) = some (.int .i64 (rd l0_1 t452))) (ds := []) #[false, false, false, false, false, false, false, false, false] (by kernel_rfl) rfl rfl ⟨(blk_cell BK437.out 0).trans rfl, (blk_cell BK437.out 1).trans rfl, (sqa HB hw453_0 :)⟩ (fun hHeld => ?_); refine with_tabW impl_GapsHas.tab18 impl_GapsHas.bits18 (fun HT_ HW_ => ?_)
         generalize wr.drew = w44 at HO_5 HO_44 HO_51 BK437 HB hx453_0 hHeld ⊢
         refine sqp HT_ 0 58 ?_
         refine sqp HT_ 3 61 ?_
         refine sqp HT_ 4 62 ?_
         refine sqw HT_ HW_ 1 59 hHeld ?_
         refine sqw HT_ HW_ 2 60 hHeld ?_
         refine sqo HT_ 5 63 (fun K hK => ?_)
         refine sqG Try.func65 #[.agg #[.int .i64 a0_0, .slice (some ad453) l0_1.length c0_1], .int .i64 x46_3, .int .i64 x53_4] ?_
         with_reducible refine (impl_Gaps_at.calls a0_0 _ _ l0_1 x46_3 x53_4 t452 _ ?side1 ?side2 A35.out).mono ?_
         (case side1 => exact sqC (Kd.C_below HR0_1.out HB.out))
         (case side2 => exact HC0_1.out)
         rintro e w45 ⟨rfl, hb⟩
         refine ⟨_, rfl, ?_⟩
         have n0_ := Aside0.mk (Kd.R_below (sqy HO_5.out) hb)
         have n1_ := Aside0.mk (Kd.R_below (sqy HO_44.out) hb)
         have n2_ := Aside0.mk (Kd.R_below (sqy HO_51.out) hb)
         have n3_ := sqb BK437 hb
         have n4_ := sqs HB hb
         clear HO_5
         clear HO_44
         clear HO_51
         clear BK437
         clear HB
         have HO_5 := n0_
         have HO_44 := n1_
         have HO_51 := n2_
         have BK437 := n3_
         have HB := n4_
         clear n0_ n1_ n2_ n3_ n4_
         (try clear hb)
         refine hK.out _ _ ⟨(blk_cell BK437.out 0).trans rfl, (blk_cell BK437.out 1).trans rfl, (sqa HB hw453_0 :)⟩ (fun hHeld => ?_)
         clear hK K
         refine sqnm ?_
         refine sqp HT_ 6 64 ?_
         refine sqw HT_ HW_ 7 65 hHeld ?_
         refine sqp HT_ 8 12 ?_
         refine done_ (done_of HT_.out (by kernel_rfl)) ?_
         try go_wp2
         go_roundg k4
         case measure => have := HJ2.out; have := HK2.out; have := HK3.out; have := HK4.out; omega
         case rel => exact ⟨(wrap64 (x53_4 + 1)), (by first | rfl | (simp; done) | (simp [*]; done)), H', ⟨by have := HJ2.out; have := HK2.out; have := HK3.out; have := HK4.out; omega⟩, ⟨sqy HO_5.out⟩, ⟨sqy HO_44.out⟩, ⟨sqy HO_51.out⟩, sqk BK437, sqh HB⟩

end Go.Proofs.Ytnmgckdgmplddaa.PFnExactAbsHas
