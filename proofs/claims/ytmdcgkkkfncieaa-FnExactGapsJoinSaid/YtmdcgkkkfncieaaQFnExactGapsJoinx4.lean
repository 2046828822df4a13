/- Functions of the program as plain Lean functions, and that calls of them come to what these tell. Conditions: those in each law. -/
import Derived.Test.YtmdcgkkkfncieaaSq
import Derived.Test.YtmdcgkkkfncieaaDFnExactGapsJoin
import Derived.Test.YtmdcgkkkfncieaaQFnExactGapsJoinx0
import Derived.Test.YtmdcgkkkfncieaaQFnExactGapsJoinx3
namespace Go.Proofs.Ytmdcgkkkfncieaa.PFnExactGapsJoin
open Go.RowKit Go.Proofs.Ytmdcgkkkfncieaa.Sq Go.Proofs.YtmdcgkkkfncieaaW.PrintWords Go.Proofs.YtmdcgkkkfncieaaW.PrintLast Go.Proofs.YtmdcgkkkfncieaaW.PrintMore
attribute [local go_sem] max2_int min2_int max_two min_two max_three min_three max_four min_four   -- for this text's walks alone
set_option linter.unusedVariables false
set_option linter.unusedSimpArgs false

/-! ### impl_GapsJoin: function 25 -/
theorem impl_GapsJoin.mono_l : ∀ k, (∀ y0 y1 y2 y3 y4, LeO (impl_GapsJoin.j0 k y0 y1 y2 y3 y4) (impl_GapsJoin.j0 (k + 1) y0 y1 y2 y3 y4)) ∧ (∀ y0 y1 y2 y3 y4, LeO (impl_GapsJoin.l0 k y0 y1 y2 y3 y4) (impl_GapsJoin.l0 (k + 1) y0 y1 y2 y3 y4))
  | 0 => ⟨fun _ _ _ _ _ r h => by simp [impl_GapsJoin.j0] at h, fun _ _ _ _ _ r h => by simp [impl_GapsJoin.l0] at h⟩
  | k + 1 => by
    obtain ⟨ih0, ih1⟩ := impl_GapsJoin.mono_l k
    refine ⟨?_, ?_⟩
    · intro y0 y1 y2 y3 y4
      unfold impl_GapsJoin.j0
      repeat' first
      | (with_reducible exact ih0 _ _ _ _ _)
      | (with_reducible exact ih1 _ _ _ _ _)
      | (with_reducible exact impl_GapsOk.mono _ _ _)
      | (with_reducible exact LeO.refl _)
      | (with_reducible exact LeO.none _)
      | (with_reducible refine LeO.ite ?_ ?_)
      | (with_reducible refine LeO.bind ?_ (fun _ => ?_))
      | exact ih0 _ _ _ _ _
      | exact ih1 _ _ _ _ _
      | exact impl_GapsOk.mono _ _ _
      | exact LeO.none _
      | refine LeO.ite ?_ ?_
      | refine LeO.bind ?_ (fun _ => ?_)
    · intro y0 y1 y2 y3 y4
      unfold impl_GapsJoin.l0
      repeat' first
      | (with_reducible exact ih0 _ _ _ _ _)
      | (with_reducible exact ih1 _ _ _ _ _)
      | (with_reducible exact impl_GapsOk.mono _ _ _)
      | (with_reducible exact LeO.refl _)
      | (with_reducible exact LeO.none _)
      | (with_reducible refine LeO.ite ?_ ?_)
      | (with_reducible refine LeO.bind ?_ (fun _ => ?_))
      | exact ih0 _ _ _ _ _
      | exact ih1 _ _ _ _ _
      | exact impl_GapsOk.mono _ _ _
      | exact LeO.none _
      | refine LeO.ite ?_ ?_
      | refine LeO.bind ?_ (fun _ => ?_)
theorem impl_GapsJoin.mono : ∀ a0 a1 a2 a3 k, LeO (impl_GapsJoin.f k a0 a1 a2 a3) (impl_GapsJoin.f (k + 1) a0 a1 a2 a3) := by
  intro a0 a1 a2 a3 k
  obtain ⟨ih0, ih1⟩ := impl_GapsJoin.mono_l k
  unfold impl_GapsJoin.f
  repeat' first
      | (with_reducible exact ih0 _ _ _ _ _)
      | (with_reducible exact ih1 _ _ _ _ _)
      | (with_reducible exact impl_GapsOk.mono _ _ _)
      | (with_reducible exact LeO.refl _)
      | (with_reducible exact LeO.none _)
      | (with_reducible refine LeO.ite ?_ ?_)
      | (with_reducible refine LeO.bind ?_ (fun _ => ?_))
      | exact ih0 _ _ _ _ _
      | exact ih1 _ _ _ _ _
      | exact impl_GapsOk.mono _ _ _
      | exact LeO.none _
      | refine LeO.ite ?_ ?_
      | refine LeO.bind ?_ (fun _ => ?_)
def impl_GapsJoin.T7 : Bool × List (List Nat × List Nat) := (true, [([], []), ([0], [0]), ([], []), ([], []), ([3], [3]), ([], []), ([4, 5], [4, 5]), ([6], [6]), ([], []), ([7, 8], [7, 8]), ([1, 2, 0, 1, 2, 3, 4, 5, 6, 7, 8, 9], [1, 2]), ([10, 9, 0, 1, 2, 3, 4, 5, 6, 7, 8, 9], [9, 10])])
def impl_GapsJoin.B7 : List Nat := [0, 1, 0, 0, 8, 0, 56, 120, 0, 504, 1023, 2047]
theorem impl_GapsJoin.tab7 : rtab .any (opsOf Try.f25 7) = impl_GapsJoin.T7 := by kernel_rfl
theorem impl_GapsJoin.bits7 : waitsOk impl_GapsJoin.T7.2 impl_GapsJoin.B7 = true := by kernel_rfl
set_option maxHeartbeats 8000000 in
set_option maxRecDepth 100000 in
theorem impl_GapsJoin.calls (k : Nat) (a0_0 : Int) (A0_1 : Option Addr) (c0_1 : Nat) (l0_1 : List Int) (a1_0 : Int) (A1_1 : Option Addr) (c1_1 : Nat) (l1_1 : List Int) (r1 : Int) (r2 : List Int) (w : World) (hr0_1 : Kd.C (Kd.int .i64) w A0_1 l0_1.length l0_1) (hc0_1 : l0_1.length ≤ c0_1) (hr1_1 : Kd.C (Kd.int .i64) w A1_1 l1_1.length l1_1) (hc1_1 : l1_1.length ≤ c1_1) (h : impl_GapsJoin.f k a0_0 l0_1 a1_0 l1_1 = some (r1, r2)) :
    Calls Try.prog 25 #[.agg #[.int .i64 a0_0, .slice A0_1 l0_1.length c0_1], .agg #[.int .i64 a1_0, .slice A1_1 l1_1.length c1_1]] w fun e w' => ∃ v1_ : Value, e = .returned (.agg #[.int .i64 r1, v1_]) ∧ Kd.R (Kd.int .i64) 3 w' w.heap.size (fun _ => True) v1_ r2 ∧ Below w.heap.size w w' := by
  have hu29 := Try.underlying29
  have HR0_1 := Aside0.mk hr0_1
  have HC0_1 := Aside0.mk hc0_1
  clear hr0_1 hc0_1
  have HR1_1 := Aside0.mk hr1_1
  have HC1_1 := Aside0.mk hc1_1
  clear hr1_1 hc1_1
  have HB := Aside0.mk (Below.refl w.heap.size w)
  have H : ((impl_GapsOk.f k a0_0 l0_1).bind fun t160 => (if t160 = true then ((impl_GapsOk.f k a1_0 l1_1).bind fun t161 => (if t161 = true then (impl_GapsJoin.j0 k (a0_0 != a1_0) a0_0 l0_1 a1_0 l1_1) else (impl_GapsJoin.j0 k true a0_0 l0_1 a1_0 l1_1))) else (impl_GapsJoin.j0 k true a0_0 l0_1 a1_0 l1_1))) = some (r1, r2) := h
  clear h
  have HC3 := Aside0.mk H
  clear H
  go_enter Try.func25, Try.ntmps25
  go_upto_region 1 with (first | ((with_reducible refine gate_dst (N := 2) rfl ?_); refine sqx 2 #[.int .i64 a0_0, .slice A0_1 l0_1.length c0_1] 29 ?_; intro gb157 hg w4 hbox hb; have BK157 := Aside0.mk (hbox); have GW157 := sqg HB hg; have GE157 := sqg HB hg; replace HB := sqs HB hb; clear hb hbox hg) | ((with_reducible refine gate_dst (N := 3) rfl ?_); refine sqx 3 #[.int .i64 a1_0, .slice A1_1 l1_1.length c1_1] 29 ?_; intro gb158 hg w5 hbox hb; have BK158 := Aside0.mk (hbox); have GW158 := sqg HB hg; have GE158 := sqg HB hg; have NB157_158 := sqn BK157 hg; have NB158_157 := sqm BK157 hg; replace BK157 := sqb BK157 hb; replace HB := sqs HB hb; clear hb hbox hg) | ((with_reducible refine gate_dst (N := 4) rfl ?_); refine sqx 4 #[.int .i64 0, .slice none 0 0] 29 ?_; intro gb159 hg w6 hbox hb; have BK159 := Aside0.mk (hbox); have GW159 := sqg HB hg; have GE159 := sqg HB hg; have NB157_159 := sqn BK157 hg; have NB159_157 := sqm BK157 hg; have NB158_159 := sqn BK158 hg; have NB159_158 := sqm BK158 hg; replace BK157 := sqb BK157 hb; replace BK158 := sqb BK158 hb; replace HB := sqs HB hb; clear hb hbox hg))
  (try simp only [Act.put, List.setIfInBounds_toArray, List.set_cons_zero, List.set_cons_succ])
  go_cut [22] (fun v22 wc => ∃ (kq : Nat) (x22_2 : Bool), v22 = .bool x22_2 ∧ Aside0 (impl_GapsJoin.j0 kq x22_2 a0_0 l0_1 a1_0 l1_1 = some (r1, r2)) ∧ Aside0 (kq ≤ k) ∧ Aside0 (wc.heap[gb157]? = some (.cells #[.int .i64 a0_0, (.slice A0_1 l0_1.length c0_1)] 29 (0, 0))) ∧ Aside0 (wc.heap[gb158]? = some (.cells #[.int .i64 a1_0, (.slice A1_1 l1_1.length c1_1)] 29 (0, 0))) ∧ Aside0 (wc.heap[gb159]? = some (.cells #[.int .i64 0, (.slice none 0 0)] 29 (0, 0))) ∧ Aside0 (Below w.heap.size w wc))
  case first =>
    have H := HC3.out
    clear HC3
    replace H := Option.bind_eq_some_iff.mp H
    obtain ⟨t160, A70, H⟩ := H
    replace H : (if t160 = true then ((impl_GapsOk.f k a1_0 l1_1).bind fun t161 => (if t161 = true then (impl_GapsJoin.j0 k (a0_0 != a1_0) a0_0 l0_1 a1_0 l1_1) else (impl_GapsJoin.j0 k true a0_0 l0_1 a1_0 l1_1))) else (impl_GapsJoin.j0 k true a0_0 l0_1 a1_0 l1_1)) = some (r1, r2) := H
    have A7 := Aside0.mk A70
    clear A70
    by_cases c8 : t160 = true
    · subst c8
      have H1 : ((impl_GapsOk.f k a1_0 l1_1).bind fun t161 => (if t161 = true then (impl_GapsJoin.j0 k (a0_0 != a1_0) a0_0 l0_1 a1_0 l1_1) else (impl_GapsJoin.j0 k true a0_0 l0_1 a1_0 l1_1))) = some (r1, r2) := by rw [if_pos rfl] at H; exact H
      clear H
      have H := H1
      clear H1
      replace H := Option.bind_eq_some_iff.mp H
      obtain ⟨t161, A90, H⟩ := H
      replace H : (if t161 = true then (impl_GapsJoin.j0 k (a0_0 != a1_0) a0_0 l0_1 a1_0 l1_1) else (impl_GapsJoin.j0 k true a0_0 l0_1 a1_0 l1_1)) = some (r1, r2) := H
      have A9 := Aside0.mk A90
      clear A90
      by_cases c10 : t161 = true
      · subst c10
        have H1 : (impl_GapsJoin.j0 k (a0_0 != a1_0) a0_0 l0_1 a1_0 l1_1) = some (r1, r2) := by rw [if_pos rfl] at H; exact H
        clear H
        have H := H1
        clear H1
        have H' := Aside0.mk H
        clear H
        have hnb11 := NB157_158.out
        have hnc11 := NB158_157.out
        have hnb12 := NB157_159.out
        have hnc12 := NB159_157.out
        obtain ⟨hcz13_0, hcz13_1, hfz13_0, hfz13_1⟩ := sqc2 BK157
        go_wp2_with (first | ((with_reducible refine gate_callee (f := 72) rfl ?_); refine sqL (some 9) Try.func72 #[.agg #[.int .i64 a0_0, .slice A0_1 l0_1.length c0_1]] ?_; (with_reducible refine (impl_GapsOk.calls k a0_0 _ _ l0_1 true _ ?side1 ?side2 A7.out).mono ?_); (case side1 => repeat (first | exact (Kd.C_below HR0_1.out HB.out) | (with_reducible refine Kd.C_alloc ?_ _) | (with_reducible refine Kd.C_drewN ?_ _) | (with_reducible refine Kd.C_drew ?_))); (case side2 => exact HC0_1.out); rintro e w14 ⟨rfl, hb⟩; refine ⟨_, rfl, ?_⟩; replace BK157 := sqb BK157 hb; replace BK158 := sqb BK158 hb; replace BK159 := sqb BK159 hb; replace HB := sqs HB hb; (try clear hb); have hnb15 := NB158_159.out; have hnc15 := NB159_158.out; obtain ⟨hcz16_0, hcz16_1, hfz16_0, hfz16_1⟩ := sqc2 BK158) | (go_at_call 72; (with_reducible refine (impl_GapsOk.calls k a1_0 _ _ l1_1 true _ ?side1 ?side2 A9.out).mono ?_); (case side1 => repeat (first | exact (Kd.C_below HR1_1.out HB.out) | (with_reducible refine Kd.C_alloc ?_ _) | (with_reducible refine Kd.C_drewN ?_ _) | (with_reducible refine Kd.C_drew ?_))); (case side2 => exact HC1_1.out); rintro e w17 ⟨rfl, hb⟩; replace BK157 := sqb BK157 hb; replace BK158 := sqb BK158 hb; replace BK159 := sqb BK159 hb; replace HB := sqs HB hb; (try clear hb); obtain ⟨hcz18_0, hcz18_1, hfz18_0, hfz18_1⟩ := sqc2 BK157; obtain ⟨hcz19_0, hcz19_1, hfz19_0, hfz19_1⟩ := sqc2 BK158))
        go_meet
        case rel => exact ⟨_, ((a0_0 != a1_0)), (by first | rfl | (simp; done) | (simp [*]; done)), H', ⟨by first | omega | exact Nat.le_refl _⟩, sqk BK157, sqk BK158, sqk BK159, sqh HB⟩
      · replace c10 := Bool.eq_false_iff.mpr c10
        subst c10
        have H1 : (impl_GapsJoin.j0 k true a0_0 l0_1 a1_0 l1_1) = some (r1, r2) := by rw [if_neg (show ¬ (false = true) by decide)] at H; exact H
        clear H
        have H := H1
        clear H1
        have H' := Aside0.mk H
        clear H
        have hnb20 := NB157_158.out
        have hnc20 := NB158_157.out
        have hnb21 := NB157_159.out
        have hnc21 := NB159_157.out
        obtain ⟨hcz22_0, hcz22_1, hfz22_0, hfz22_1⟩ := sqc2 BK157
        go_wp2_with (first | ((with_reducible refine gate_callee (f := 72) rfl ?_); refine sqL (some 9) Try.func72 #[.agg #[.int .i64 a0_0, .slice A0_1 l0_1.length c0_1]] ?_; (with_reducible refine (impl_GapsOk.calls k a0_0 _ _ l0_1 true _ ?side1 ?side2 A7.out).mono ?_); (case side1 => repeat (first | exact (Kd.C_below HR0_1.out HB.out) | (with_reducible refine Kd.C_alloc ?_ _) | (with_reducible refine Kd.C_drewN ?_ _) | (with_reducible refine Kd.C_drew ?_))); (case side2 => exact HC0_1.out); rintro e w23 ⟨rfl, hb⟩; refine ⟨_, rfl, ?_⟩; replace BK157 := sqb BK157 hb; replace BK158 := sqb BK158 hb; replace BK159 := sqb BK159 hb; replace HB := sqs HB hb; (try clear hb); have hnb24 := NB158_159.out; have hnc24 := NB159_158.out; obtain ⟨hcz25_0, hcz25_1, hfz25_0, hfz25_1⟩ := sqc2 BK158) | (go_at_call 72; (with_reducible refine (impl_GapsOk.calls k a1_0 _ _ l1_1 false _ ?side1 ?side2 A9.out).mono ?_); (case side1 => repeat (first | exact (Kd.C_below HR1_1.out HB.out) | (with_reducible refine Kd.C_alloc ?_ _) | (with_reducible refine Kd.C_drewN ?_ _) | (with_reducible refine Kd.C_drew ?_))); (case side2 => exact HC1_1.out); rintro e w26 ⟨rfl, hb⟩; replace BK157 := sqb BK157 hb; replace BK158 := sqb BK158 hb; replace BK159 := sqb BK159 hb; replace HB := sqs HB hb; (try clear hb)))
        go_meet
        case rel => exact ⟨_, (true), (by first | rfl | (simp; done) | (simp [*]; done)), H', ⟨by first | omega | exact Nat.le_refl _⟩, sqk BK157, sqk BK158, sqk BK159, sqh HB⟩
    · replace c8 := Bool.eq_false_iff.mpr c8
      subst c8
      have H1 : (impl_GapsJoin.j0 k true a0_0 l0_1 a1_0 l1_1) = some (r1, r2) := by rw [if_neg (show ¬ (false = true) by decide)] at H; exact H
      clear H
      have H := H1
      clear H1
      have H' := Aside0.mk H
      clear H
      have hnb27 := NB157_158.out
      have hnc27 := NB158_157.out
      have hnb28 := NB157_159.out
      have hnc28 := NB159_157.out
      obtain ⟨hcz29_0, hcz29_1, hfz29_0, hfz29_1⟩ := sqc2 BK157
      go_wp2_with (first | ((with_reducible refine gate_callee (f := 72) rfl ?_); refine sqL (some 9) Try.func72 #[.agg #[.int .i64 a0_0, .slice A0_1 l0_1.length c0_1]] ?_; (with_reducible refine (impl_GapsOk.calls k a0_0 _ _ l0_1 false _ ?side1 ?side2 A7.out).mono ?_); (case side1 => repeat (first | exact (Kd.C_below HR0_1.out HB.out) | (with_reducible refine Kd.C_alloc ?_ _) | (with_reducible refine Kd.C_drewN ?_ _) | (with_reducible refine Kd.C_drew ?_))); (case side2 => exact HC0_1.out); rintro e w30 ⟨rfl, hb⟩; refine ⟨_, rfl, ?_⟩; replace BK157 := sqb BK157 hb; replace BK158 := sqb BK158 hb; replace BK159 := sqb BK159 hb; replace HB := sqs HB hb; (try clear hb)))
      go_meet
      case rel => exact ⟨_, (true), (by first | rfl | (simp; done) | (simp [*]; done)), H', ⟨by first | omega | exact Nat.le_refl _⟩, sqk BK157, sqk BK158, sqk BK159, sqh HB⟩
  case rest =>
    clear HC3
    obtain ⟨kq, x22_2, rfl, HA, HJ2, BK157, BK158, BK159, HB⟩ := hcut
    cases kq with
    | zero => exact absurd HA.out (by simp [impl_GapsJoin.j0])
    | succ kj2 =>
      have H := HA.out
      clear HA
      simp only [impl_GapsJoin.j0] at H
      by_cases c31 : x22_2 = true
      · subst c31
        have H1 : (some (0, ([] : List Int))) = some (r1, r2) := by rw [if_pos rfl] at H; exact H
        clear H
        have H := H1
        clear H1
        simp only [Option.some.injEq, Prod.mk.injEq] at H
        obtain ⟨rfl, rfl⟩ := H
        have hnb32 := NB159_157.out
        have hnc32 := NB157_159.out
        have hnb33 := NB159_158.out
        have hnc33 := NB158_159.out
        obtain ⟨hcz34_0, hcz34_1, hfz34_0, hfz34_1⟩ := sqc2 BK159
        go_wp2
        refine bodyPost_ret (results_cell_row rfl _ _ gb159 29 #[.int .i64 0, .slice none 0 0] (0, 0) _ rfl (by refine sqt ?_; refine blk_put (cs := #[.int .i64 0, .slice none 0 0]) ?_ 1 _ rfl; refine sqt ?_; refine blk_put (cs := #[.int .i64 0, .slice none 0 0]) ?_ 0 _ rfl; refine sqt ?_; exact BK159.out) Try.underlying29 rfl (by kernel_rfl)) rfl ?_
        exact ⟨_, by first | rfl | (simp [errW_none, errW_some] <;> rfl) | (simp [*, errW_none, errW_some] <;> rfl), by first | exact Kd.R_nil _ _ _ _ _ | exact Kd.N_nil _ _ _ _ _ | exact Kd.V_nil _ _ _ _ _ | exact Kd.Q_nil _ _ _ _ _ | exact Kd.S_nil _ _ _ _ _, by repeat (first | (with_reducible first | exact HB.out | apply below_alloc | apply pw_below_drewN | apply below_drew1 | refine below_set ?_ GE157.out | refine below_set ?_ GE158.out | refine below_set ?_ GE159.out) | exact HB.out)⟩
      · replace c31 := Bool.eq_false_iff.mpr c31
        subst c31
        have H1 : ((impl_Gaps_clone.f a0_0 l0_1).bind fun bt162 => (impl_GapsJoin.l0 kj2 l1_1 (l1_1.length : Int) 0 bt162.1 bt162.2)) = some (r1, r2) := by rw [if_neg (show ¬ (false = true) by decide)] at H; exact H
        clear H
        have H := H1
        clear H1
        replace H := Option.bind_eq_some_iff.mp H
        obtain ⟨⟨t162, t163⟩, A350, H⟩ := H
        replace H : (impl_GapsJoin.l0 kj2 l1_1 (l1_1.length : Int) 0 t162 t163) = some (r1, r2) := H
        have A35 := Aside0.mk A350
        clear A350
        have H' := Aside0.mk H
        clear H
        have hnb36 := NB157_158.out
        have hnc36 := NB158_157.out
        have hnb37 := NB157_159.out
        have hnc37 := NB159_157.out
        obtain ⟨hcz38_0, hcz38_1, hfz38_0, hfz38_1⟩ := sqc2 BK157
        go_wp2_with (first | ((with_reducible refine gate_callee (f := 78) rfl ?_); refine sqL (some 25) Try.func78 #[.agg #[.int .i64 a0_0, .slice A0_1 l0_1.length c0_1]] ?_; (with_reducible refine (impl_Gaps_clone.calls a0_0 _ _ l0_1 t162 t163 _ ?side1 ?side2 A35.out).mono ?_); (case side1 => repeat (first | exact (Kd.C_below HR0_1.out HB.out) | (with_reducible refine Kd.C_alloc ?_ _) | (with_reducible refine Kd.C_drewN ?_ _) | (with_reducible refine Kd.C_drew ?_))); (case side2 => exact HC0_1.out); rintro e w39 ⟨v164, rfl, ho0, hb⟩; refine ⟨_, rfl, ?_⟩; have HO165 := Aside0.mk (Kd.R_lower ho0 (below_size (by repeat (first | (with_reducible first | exact HB.out | apply below_alloc | apply pw_below_drewN | apply below_drew1 | refine below_set ?_ GE157.out | refine below_set ?_ GE158.out | refine below_set ?_ GE159.out) | exact HB.out)))); replace BK157 := sqb BK157 hb; replace BK158 := sqb BK158 hb; replace BK159 := sqb BK159 hb; replace HB := sqs HB hb; (try clear hb); (try clear hb2); (try clear hk); (try clear hi); (try clear ho0)) | ((with_reducible refine gate_dst (N := 5) rfl ?_); refine sqx 5 #[.int .i64 0, .slice none 0 0] 29 ?_; intro gb166 hg w40 hbox hb; have n0_ := Aside0.mk (Kd.R_below (by (with_reducible repeat (first | apply Kd.R_alloc | apply Kd.R_drewN | apply Kd.R_drew)); exact HO165.out) hb); have n1_ := sqb BK157 hb; have n2_ := sqb BK158 hb; have n3_ := sqb BK159 hb; have n4_ := sqs HB hb; have n5_ := Aside0.mk (hbox); have n6_ := sqg HB hg; have n7_ := sqg HB hg; have n8_ := sqn BK157 hg; have n9_ := sqm BK157 hg; have n10_ := sqn BK158 hg; have n11_ := sqm BK158 hg; have n12_ := sqn BK159 hg; have n13_ := sqm BK159 hg; clear HO165; clear BK157; clear BK158; clear BK159; clear HB; have HO165 := n0_; have BK157 := n1_; have BK158 := n2_; have BK159 := n3_; have HB := n4_; have BK166 := n5_; have GW166 := n6_; have GE166 := n7_; have NB157_166 := n8_; have NB166_157 := n9_; have NB158_166 := n10_; have NB166_158 := n11_; have NB159_166 := n12_; have NB166_159 := n13_; clear n0_ n1_ n2_ n3_ n4_ n5_ n6_ n7_ n8_ n9_ n10_ n11_ n12_ n13_; clear hb hbox hg; have hnb41 := NB166_157.out; have hnc41 := NB157_166.out; have hnb42 := NB166_158.out; have hnc42 := NB158_166.out; have hnb43 := NB166_159.out; have hnc43 := NB159_166.out; obtain ⟨hcz44_0, hcz44_1, hfz44_0, hfz44_1⟩ := sqc2 BK166; obtain ⟨Ao45, co45, eo45⟩ := Kd.R_slice HO165.out; subst eo45; have hnb46 := NB158_159.out; have hnc46 := NB159_158.out; obtain ⟨hcz47_0, hcz47_1, hfz47_0, hfz47_1⟩ := sqc2 BK158))
        go_loopg [29] kj2 (fun kq v29 w' => ∃ (x29_2 : Int) (x167001_2 : List Int) (u167001 : Value), v29 = .int .i64 x29_2 ∧ Aside0 (impl_GapsJoin.l0 kq l1_1 (l1_1.length : Int) x29_2 t162 x167001_2 = some (r1, r2)) ∧ Aside0 (kq ≤ kj2) ∧ Aside0 (Kd.R (Kd.int .i64) 3 w' w.heap.size (fun _ => True) u167001 x167001_2) ∧ Aside0 (w'.heap[gb157]? = some (.cells #[.int .i64 a0_0, (.slice A0_1 l0_1.length c0_1)] 29 (0, 0))) ∧ Aside0 (w'.heap[gb158]? = some (.cells #[.int .i64 a1_0, (.slice A1_1 l1_1.length c1_1)] 29 (0, 0))) ∧ Aside0 (w'.heap[gb159]? = some (.cells #[.int .i64 0, (.slice none 0 0)] 29 (0, 0))) ∧ Aside0 (w'.heap[gb166]? = some (.cells #[.int .i64 t162, u167001] 29 (0, 0))) ∧ Aside0 (Below w.heap.size w w'))
        case atStart => exact ⟨(0), (t163), (.slice Ao45 t163.length co45), (by first | rfl | (simp; done) | (simp [*]; done)), H', ⟨Nat.le_refl _⟩, ⟨by (with_reducible repeat (first | apply Kd.R_alloc | apply Kd.R_drewN | apply Kd.R_drew)); exact Kd.R_mono (Kd.R_far (p := ⟨gb166, 1, none⟩) (Kd.R_far (p := ⟨gb166, 0, none⟩) (Kd.R_types HO165.out BK166.out (by decide)) (fun _ hk => hk.2) (.int .i64 t162)) (fun _ hk => hk.2) (.slice Ao45 t163.length co45)) (fun _ hk => trivial)⟩, ⟨by refine sqt ?_; refine blk_far ?_ NB157_166.out _; refine sqt ?_; refine blk_far ?_ NB157_166.out _; refine sqt ?_; exact BK157.out⟩, ⟨by refine sqt ?_; refine blk_far ?_ NB158_166.out _; refine sqt ?_; refine blk_far ?_ NB158_166.out _; refine sqt ?_; exact BK158.out⟩, ⟨by refine sqt ?_; refine blk_far ?_ NB159_166.out _; refine sqt ?_; refine blk_far ?_ NB159_166.out _; refine sqt ?_; exact BK159.out⟩, ⟨by refine sqt ?_; refine blk_put (cs := #[.int .i64 t162, .slice none 0 0]) ?_ 1 _ rfl; refine sqt ?_; refine blk_put (cs := #[.int .i64 0, .slice none 0 0]) ?_ 0 _ rfl; refine sqt ?_; exact BK166.out⟩, sqh HB⟩
        case round =>
          clear H'
          try clear c1
          try clear c2
          try clear p2
          try clear c3
          try clear c4
          try clear c7
          try clear c8
          try clear c10
          try clear c11
          try clear c12
          try clear c15
          try clear c20
          try clear c21
          try clear c24
          try clear c25
          try clear c27
          try clear c28
          try clear c31
          try clear c32
          try clear c33
          try clear c36
          try clear c37
          try clear c41
          try clear c42
          try clear c43
          try clear c46
          try clear hcz13_0
          try clear hcz13_1
          try clear hcz16_0
          try clear hcz16_1
          try clear hcz18_0
          try clear hcz18_1
          try clear hcz19_0
          try clear hcz19_1
          try clear hcz22_0
          try clear hcz22_1
          try clear hcz25_0
          try clear hcz25_1
          try clear hcz29_0
          try clear hcz29_1
          try clear hcz34_0
          try clear hcz34_1
          try clear hcz38_0
          try clear hcz38_1
          try clear hcz44_0
          try clear hcz44_1
          try clear hcz47_0
          try clear hcz47_1
          try clear hfz13_0
          try clear hfz13_1
          try clear hfz16_0
          try clear hfz16_1
          try clear hfz18_0
          try clear hfz18_1
          try clear hfz19_0
          try clear hfz19_1
          try clear hfz22_0
          try clear hfz22_1
          try clear hfz25_0
          try clear hfz25_1
          try clear hfz29_0
          try clear hfz29_1
          try clear hfz34_0
          try clear hfz34_1
          try clear hfz38_0
          try clear hfz38_1
          try clear hfz44_0
          try clear hfz44_1
          try clear hfz47_0
          try clear hfz47_1
          try clear p2
          obtain ⟨x29_2, x167001_2, u167001, rfl, HA, HK2, HO_167001, BK157, BK158, BK159, BK166, HB⟩ := hrel
          cases gk with
          | zero => exact absurd HA.out (by simp [impl_GapsJoin.l0])
          | succ k2 =>
            have H := HA.out
            clear HA
            simp only [impl_GapsJoin.l0] at H
            by_cases c48 : x29_2 < (l1_1.length : Int)
            · rw [if_pos c48] at H
              have c48b0 : decide (x29_2 < (l1_1.length : Int)) = true := decide_eq_true c48
              clear c48
              by_cases c49 : 0 ≤ x29_2
              · rw [if_pos c49] at H
                have c49b0 : decide (0 ≤ x29_2) = true := decide_eq_true c49
                clear c49
                by_cases c50 : x29_2 < (l1_1.length : Int)
                · rw [if_pos c50] at H
                  have c50b0 : decide (x29_2 < (l1_1.length : Int)) = true := decide_eq_true c50
                  clear c50
                  by_cases c51 : x29_2 < (x167001_2.length : Int)
                  · rw [if_pos c51] at H
                    have c51b0 : decide (x29_2 < (x167001_2.length : Int)) = true := decide_eq_true c51
                    clear c51
                    obtain ⟨ji52, hji52⟩ : ∃ j_ : Int, (mx (rd x167001_2 x29_2) (rd l1_1 x29_2)) = j_ := ⟨_, rfl⟩
                    replace H : (impl_GapsJoin.l0 k2 l1_1 (l1_1.length : Int) (wrap64 (x29_2 + 1)) t162 (x167001_2.set (x29_2 : Int).toNat (ji52))) = some (r1, r2) := by first | (rw [hji52] at H; exact H) | (simp only [hji52] at H ⊢; exact H)
                    have hji52_ : (if (rd x167001_2 x29_2) < (rd l1_1 x29_2) then (rd l1_1 x29_2) else (rd x167001_2 x29_2)) = ji52 := hji52
                    obtain ⟨y169, hy169⟩ : ∃ y_ : List Int, y_ = (x167001_2.set (x29_2 : Int).toNat (ji52)) := ⟨_, rfl⟩
                    replace H : (impl_GapsJoin.l0 k2 l1_1 (l1_1.length : Int) (wrap64 (x29_2 + 1)) t162 y169) = some (r1, r2) := by first | (rw [hy169]; with_reducible exact H) | (have H2_ := (Option.bind_some _ _).symm.trans H; rw [hy169]; with_reducible exact H2_) | (have H2_ := (Option.bind_some _ _).symm.trans H; with_reducible exact H2_) | with_reducible exact H | (rw [hy169]; exact H) | exact H
                    have Ny169 := Aside0.mk hy169
                    clear hy169
                    have H' := Aside0.mk H
                    clear H
                    have p167 : 0 ≤ (x29_2 : Int) := of_decide_eq_true (by first | (with_reducible assumption) | assumption)
                    have q167 : x29_2 < (l1_1.length : Int) := of_decide_eq_true (by first | (with_reducible assumption) | assumption)
                    obtain ⟨ad167, e167, hx167_0⟩ := Kd.at_int HR1_1.out x29_2 p167 q167
                    cases e167
                    replace hx167_0 := (HB.out.cell (World.block_lt_of_cell? w _ hx167_0)).trans hx167_0
                    replace p167 := eq_true p167
                    replace q167 := eq_true q167
                    try go_wp2
                    replace HO_167001 := Aside0.mk (Kd.R_drew HO_167001.out)
                    replace BK157 := Aside0.mk (blk_drew BK157.out)
                    replace BK158 := Aside0.mk (blk_drew BK158.out)
                    replace BK159 := Aside0.mk (blk_drew BK159.out)
                    replace BK166 := Aside0.mk (blk_drew BK166.out)
                    replace HB := Aside0.mk (below_drew1 HB.out)
                    obtain ⟨Ao55, co55, eo55⟩ := Kd.R_slice HO_167001.out
                    (first | subst eo55 | (injection eo55 with f1_ f2_ f3_; have f4_ := f1_.symm; have f5_ := f3_.symm; clear f1_ f2_ f3_; subst f4_; subst f5_))
                    have p168 : 0 ≤ (x29_2 : Int) := of_decide_eq_true (by first | (with_reducible assumption) | assumption)
                    have q168 : x29_2 < (x167001_2.length : Int) := of_decide_eq_true (by first | (with_reducible assumption) | assumption)
                    obtain ⟨ad168, e168, hx168_0⟩ := Kd.at_int (Kd.R_reads' HO_167001.out).2.2 x29_2 p168 q168
                    cases e168
                    replace p168 := eq_true p168
                    replace q168 := eq_true q168
                    have p53 : 0 ≤ (x29_2 : Int) := of_decide_eq_true (by first | (with_reducible assumption) | assumption)
                    have q53 : (x29_2 : Int) < ((x167001_2.length : Int) : Int) := of_decide_eq_true (by first | (with_reducible assumption) | assumption)
                    obtain ⟨go53, co53, eo53, gb53, gl53, cl53, HG53⟩ := Kd.R_form HO_167001.out (by omega)
                    (first | cases eo53 | (injection eo53 with ea_ en_ ec_; (first | subst ea_ | (injection ea_ with ea_; subst ea_)); subst ec_; clear en_))
                    have GB53 := Aside0.mk gb53
                    have GG53 := Aside0.mk HG53
                    clear gb53 gl53 HG53
                    (first | simp only [add_plain] at hx168_0 | skip)
                    obtain ⟨hx53_0, hf53_0⟩ := Kd.R_celln 0 HO_167001.out (x29_2 : Int) p53 q53
                    replace p53 := eq_true p53
                    replace q53 := eq_true q53
                    have HP56 := Kd.R_putn HO_167001.out (x29_2 : Int) ji52
                    rw [← Ny169.out] at HP56
                    have HQ56 := Aside0.mk HP56
                    clear HP56
                    refine start_ (n := 12) (S := fun w' => w'.cell? ⟨gb166, 0, none⟩ = some (.int .i64 t162) ∧ w'.cell? ⟨gb166, 1, none⟩ = some (.slice (some ⟨go53, 0, none⟩) x167001_2.length co55) ∧ w'.cell? ⟨go53, (x29_2).toNat, none⟩ = some (.int .i64 (rd x167001_2 x29_2))) (ds := [11]) #[false, false, false, false, false, false, false, false, false, false, false, false] (by kernel_rfl) rfl rfl ⟨(blk_cell BK166.out 0).trans rfl, (blk_cell BK166.out 1).trans rfl, hx168_0⟩ (fun hHeld => ?_); refine with_tabW impl_GapsJoin.tab7 impl_GapsJoin.bits7 (fun HT_ HW_ => ?_)
                    generalize wr.drew = w54 at HO_167001 BK157 BK158 BK159 BK166 HB GG53 HQ56 hf53_0 hx168_0 hx53_0 hHeld ⊢
                    refine sqp HT_ 0 34 ?_
                    refine sqp HT_ 2 36 ?_
                    refine sqp HT_ 3 37 ?_
                    refine sqp HT_ 5 39 ?_
                    refine sqp HT_ 8 42 ?_
                    refine sqw HT_ HW_ 1 35 hHeld ?_
                    refine sqw HT_ HW_ 4 38 hHeld ?_
                    refine sqp HT_ 6 40 ?_
                    refine sqw HT_ HW_ 7 41 hHeld ?_
                    refine sqp HT_ 9 43 ?_
                    refine sqp HT_ 10 44 ?_
                    refine last_ (i := 11) (N := none) #[true, true, true, true, true, true, true, true, true, true, true, true] rfl rfl (one_of HT_.out (by kernel_rfl)) (by decide) (fun K hK => ?_)
                    refine skip_ (w1 := ?_) (by rfl) rfl ?_ ?_
                    rotate_left
                    · go_simp
                      rfl
                    refine hK.out _ _ ?_
                    clear hK K
                    refine done_ (done_of HT_.out (by kernel_rfl)) ?_
                    try go_wp2
                    go_roundg k2
                    case measure => have := HJ2.out; have := HK2.out; omega
                    case rel => exact ⟨(wrap64 (x29_2 + 1)), (y169), (.slice (some ⟨go53, 0, none⟩) x167001_2.length co55), (by first | rfl | (simp; done) | (simp [*]; done)), H', ⟨by have := HJ2.out; have := HK2.out; omega⟩, ⟨by (with_reducible repeat (first | apply Kd.R_alloc | apply Kd.R_drewN | apply Kd.R_drew)); exact HQ56.out⟩, ⟨by refine sqt ?_; refine blk_far ?_ (by have h_ := Kd.R_ne HO_167001.out BK157.out (by decide); intro e_; exact h_ (by rw [e_]; rfl)) _; refine sqt ?_; exact BK157.out⟩, ⟨by refine sqt ?_; refine blk_far ?_ (by have h_ := Kd.R_ne HO_167001.out BK158.out (by decide); intro e_; exact h_ (by rw [e_]; rfl)) _; refine sqt ?_; exact BK158.out⟩, ⟨by refine sqt ?_; refine blk_far ?_ (by have h_ := Kd.R_ne HO_167001.out BK159.out (by decide); intro e_; exact h_ (by rw [e_]; rfl)) _; refine sqt ?_; exact BK159.out⟩, ⟨by refine sqt ?_; refine blk_far ?_ (by have h_ := Kd.R_ne HO_167001.out BK166.out (by decide); intro e_; exact h_ (by rw [e_]; rfl)) _; refine sqt ?_; exact BK166.out⟩, ⟨by repeat (first | (with_reducible first | exact HB.out | apply below_alloc | apply pw_below_drewN | apply below_drew1 | refine below_set ?_ GB53.out | refine below_set ?_ GE157.out | refine below_set ?_ GE158.out | refine below_set ?_ GE159.out | refine below_set ?_ GE166.out) | exact HB.out)⟩⟩
                  · rw [if_neg c51] at H
                    exact absurd H (by simp)
                · rw [if_neg c50] at H
                  exact absurd H (by simp)
              · rw [if_neg c49] at H
                exact absurd H (by simp)
            · rw [if_neg c48] at H
              have c48b0 : decide (x29_2 < (l1_1.length : Int)) = false := decide_eq_false c48
              clear c48
              simp only [Option.some.injEq, Prod.mk.injEq] at H
              obtain ⟨rfl, rfl⟩ := H
              have hnb57 := NB166_157.out
              have hnc57 := NB157_166.out
              have hnb58 := NB166_158.out
              have hnc58 := NB158_166.out
              have hnb59 := NB166_159.out
              have hnc59 := NB159_166.out
              obtain ⟨hcz60_0, hcz60_1, hfz60_0, hfz60_1⟩ := sqc2 BK166
              have hnb61 := NB159_157.out
              have hnc61 := NB157_159.out
              have hnb62 := NB159_158.out
              have hnc62 := NB158_159.out
              obtain ⟨hcz63_0, hcz63_1, hfz63_0, hfz63_1⟩ := sqc2 BK159
              obtain ⟨Ao64, co64, eo64⟩ := Kd.R_slice HO_167001.out
              subst eo64
              go_wp2
              refine bodyPost_ret (results_cell_row rfl _ _ gb159 29 #[.int .i64 t162, .slice Ao64 x167001_2.length co64] (0, 0) _ rfl (by refine sqt ?_; refine blk_put (cs := #[.int .i64 t162, .slice none 0 0]) ?_ 1 _ rfl; refine sqt ?_; refine blk_put (cs := #[.int .i64 0, .slice none 0 0]) ?_ 0 _ rfl; refine sqt ?_; exact BK159.out) Try.underlying29 rfl (by kernel_rfl)) rfl ?_
              exact ⟨_, by first | rfl | (simp [errW_none, errW_some] <;> rfl) | (simp [*, errW_none, errW_some] <;> rfl), by (with_reducible repeat (first | apply Kd.R_alloc | apply Kd.R_drewN | apply Kd.R_drew)); exact Kd.R_mono (Kd.R_far (p := ⟨gb159, 1, none⟩) (Kd.R_far (p := ⟨gb159, 0, none⟩) (Kd.R_types HO_167001.out BK159.out (by decide)) (fun _ hk => hk.2) (.int .i64 t162)) (fun _ hk => hk.2) (.slice Ao64 x167001_2.length co64)) (fun _ hk => trivial), by repeat (first | (with_reducible first | exact HB.out | apply below_alloc | apply pw_below_drewN | apply below_drew1 | refine below_set ?_ GE157.out | refine below_set ?_ GE158.out | refine below_set ?_ GE159.out | refine below_set ?_ GE166.out) | exact HB.out)⟩

end Go.Proofs.Ytmdcgkkkfncieaa.PFnExactGapsJoin
