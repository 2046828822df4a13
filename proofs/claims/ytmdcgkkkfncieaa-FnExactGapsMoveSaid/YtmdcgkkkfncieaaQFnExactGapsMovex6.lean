/- Functions of the program as plain Lean functions, and that calls of them come to what these tell. Conditions: those in each law. -/
import Derived.Test.YtmdcgkkkfncieaaSq
import Derived.Test.YtmdcgkkkfncieaaDFnExactGapsMove
import Derived.Test.YtmdcgkkkfncieaaQFnExactGapsMovex0
import Derived.Test.YtmdcgkkkfncieaaQFnExactGapsMovex4
import Derived.Test.YtmdcgkkkfncieaaQFnExactGapsMovex5
namespace Go.Proofs.Ytmdcgkkkfncieaa.PFnExactGapsMove
open Go.RowKit Go.Proofs.Ytmdcgkkkfncieaa.Sq Go.Proofs.YtmdcgkkkfncieaaW.PrintWords Go.Proofs.YtmdcgkkkfncieaaW.PrintLast Go.Proofs.YtmdcgkkkfncieaaW.PrintMore
attribute [local go_sem] max2_int min2_int max_two min_two max_three min_three max_four min_four   -- for this text's walks alone
set_option linter.unusedVariables false
set_option linter.unusedSimpArgs false

/-! ### impl_GapsForget: function 29 -/
theorem impl_GapsForget.mono_l : ∀ k, (∀ y0 y1 y2 y3, LeO (impl_GapsForget.j0 k y0 y1 y2 y3) (impl_GapsForget.j0 (k + 1) y0 y1 y2 y3)) ∧ (∀ y0 y1 y2 y3 y4 y5 y6, LeO (impl_GapsForget.l0 k y0 y1 y2 y3 y4 y5 y6) (impl_GapsForget.l0 (k + 1) y0 y1 y2 y3 y4 y5 y6))
  | 0 => ⟨fun _ _ _ _ r h => by simp [impl_GapsForget.j0] at h, fun _ _ _ _ _ _ _ r h => by simp [impl_GapsForget.l0] at h⟩
  | k + 1 => by
    obtain ⟨ih0, ih1⟩ := impl_GapsForget.mono_l k
    refine ⟨?_, ?_⟩
    · intro y0 y1 y2 y3
      unfold impl_GapsForget.j0
      repeat' first
      | (with_reducible exact ih0 _ _ _ _)
      | (with_reducible exact ih1 _ _ _ _ _ _ _)
      | (with_reducible exact impl_GapsOk.mono _ _ _)
      | (with_reducible exact LeO.refl _)
      | (with_reducible exact LeO.none _)
      | (with_reducible refine LeO.ite ?_ ?_)
      | (with_reducible refine LeO.bind ?_ (fun _ => ?_))
      | exact ih0 _ _ _ _
      | exact ih1 _ _ _ _ _ _ _
      | exact impl_GapsOk.mono _ _ _
      | exact LeO.none _
      | refine LeO.ite ?_ ?_
      | refine LeO.bind ?_ (fun _ => ?_)
    · intro y0 y1 y2 y3 y4 y5 y6
      unfold impl_GapsForget.l0
      repeat' first
      | (with_reducible exact ih0 _ _ _ _)
      | (with_reducible exact ih1 _ _ _ _ _ _ _)
      | (with_reducible exact impl_GapsOk.mono _ _ _)
      | (with_reducible exact LeO.refl _)
      | (with_reducible exact LeO.none _)
      | (with_reducible refine LeO.ite ?_ ?_)
      | (with_reducible refine LeO.bind ?_ (fun _ => ?_))
      | exact ih0 _ _ _ _
      | exact ih1 _ _ _ _ _ _ _
      | exact impl_GapsOk.mono _ _ _
      | exact LeO.none _
      | refine LeO.ite ?_ ?_
      | refine LeO.bind ?_ (fun _ => ?_)
theorem impl_GapsForget.mono : ∀ a0 a1 a2 k, LeO (impl_GapsForget.f k a0 a1 a2) (impl_GapsForget.f (k + 1) a0 a1 a2) := by
  intro a0 a1 a2 k
  obtain ⟨ih0, ih1⟩ := impl_GapsForget.mono_l k
  unfold impl_GapsForget.f
  repeat' first
      | (with_reducible exact ih0 _ _ _ _)
      | (with_reducible exact ih1 _ _ _ _ _ _ _)
      | (with_reducible exact impl_GapsOk.mono _ _ _)
      | (with_reducible exact LeO.refl _)
      | (with_reducible exact LeO.none _)
      | (with_reducible refine LeO.ite ?_ ?_)
      | (with_reducible refine LeO.bind ?_ (fun _ => ?_))
      | exact ih0 _ _ _ _
      | exact ih1 _ _ _ _ _ _ _
      | exact impl_GapsOk.mono _ _ _
      | exact LeO.none _
      | refine LeO.ite ?_ ?_
      | refine LeO.bind ?_ (fun _ => ?_)
def impl_GapsForget.T8 : Bool × List (List Nat × List Nat) := (true, [([], []), ([0], [0]), ([], []), ([], []), ([], []), ([2, 3, 4], [2, 3, 4]), ([1, 5, 0, 1, 2, 3, 4, 5], [1, 5]), ([6, 5, 0, 1, 2, 3, 4, 5], [6])])
def impl_GapsForget.B8 : List Nat := [0, 1, 0, 0, 0, 28, 63, 127]
theorem impl_GapsForget.tab8 : rtab .any (opsOf Try.f29 8) = impl_GapsForget.T8 := by kernel_rfl
theorem impl_GapsForget.bits8 : waitsOk impl_GapsForget.T8.2 impl_GapsForget.B8 = true := by kernel_rfl
def impl_GapsForget.T9 : Bool × List (List Nat × List Nat) := (true, [([], []), ([0], [0]), ([], []), ([], []), ([], []), ([2, 3, 4], [2, 3, 4]), ([1, 5, 0, 1, 2, 3, 4, 5], [1, 5]), ([6, 5, 0, 1, 2, 3, 4, 5], [6])])
def impl_GapsForget.B9 : List Nat := [0, 1, 0, 0, 0, 28, 63, 127]
theorem impl_GapsForget.tab9 : rtab .any (opsOf Try.f29 9) = impl_GapsForget.T9 := by kernel_rfl
theorem impl_GapsForget.bits9 : waitsOk impl_GapsForget.T9.2 impl_GapsForget.B9 = true := by kernel_rfl
set_option maxHeartbeats 8000000 in
set_option maxRecDepth 100000 in
theorem impl_GapsForget.calls (k : Nat) (a0_0 : Int) (A0_1 : Option Addr) (c0_1 : Nat) (l0_1 : List Int) (a1 : Int) (r1 : Int) (r2 : List Int) (w : World) (hr0_1 : Kd.C (Kd.int .i64) w A0_1 l0_1.length l0_1) (hc0_1 : l0_1.length ≤ c0_1) (h : impl_GapsForget.f k a0_0 l0_1 a1 = some (r1, r2)) :
    Calls Try.prog 29 #[.agg #[.int .i64 a0_0, .slice A0_1 l0_1.length c0_1], .int .i64 a1] w fun e w' => ∃ v1_ : Value, e = .returned (.agg #[.int .i64 r1, v1_]) ∧ Kd.R (Kd.int .i64) 3 w' w.heap.size (fun _ => True) v1_ r2 ∧ Below w.heap.size w w' := by
  have hu29 := Try.underlying29
  have HR0_1 := Aside0.mk hr0_1
  have HC0_1 := Aside0.mk hc0_1
  clear hr0_1 hc0_1
  have HB := Aside0.mk (Below.refl w.heap.size w)
  have H : ((impl_GapsOk.f k a0_0 l0_1).bind fun t191 => (if t191 = true then (if a1 < 1 then (impl_GapsForget.j0 k a1 true a0_0 l0_1) else (impl_GapsForget.j0 k a1 (decide (a1 > a0_0)) a0_0 l0_1)) else (impl_GapsForget.j0 k a1 true a0_0 l0_1))) = some (r1, r2) := h
  clear h
  have HC3 := Aside0.mk H
  clear H
  go_enter Try.func29, Try.ntmps29
  go_upto_region 1 with (first | ((with_reducible refine gate_dst (N := 2) rfl ?_); refine sqx 2 #[.int .i64 a0_0, .slice A0_1 l0_1.length c0_1] 29 ?_; intro gb189 hg w4 hbox hb; have BK189 := Aside0.mk (hbox); have GW189 := sqg HB hg; have GE189 := sqg HB hg; replace HB := sqs HB hb; clear hb hbox hg) | ((with_reducible refine gate_dst (N := 4) rfl ?_); refine sqx 4 #[.int .i64 0, .slice none 0 0] 29 ?_; intro gb190 hg w5 hbox hb; have BK190 := Aside0.mk (hbox); have GW190 := sqg HB hg; have GE190 := sqg HB hg; have NB189_190 := sqn BK189 hg; have NB190_189 := sqm BK189 hg; replace BK189 := sqb BK189 hb; replace HB := sqs HB hb; clear hb hbox hg))
  (try simp only [Act.put, List.setIfInBounds_toArray, List.set_cons_zero, List.set_cons_succ])
  go_cut [19] (fun v19 wc => ∃ (kq : Nat) (x19_2 : Bool), v19 = .bool x19_2 ∧ Aside0 (impl_GapsForget.j0 kq a1 x19_2 a0_0 l0_1 = some (r1, r2)) ∧ Aside0 (kq ≤ k) ∧ Aside0 (wc.heap[gb189]? = some (.cells #[.int .i64 a0_0, (.slice A0_1 l0_1.length c0_1)] 29 (0, 0))) ∧ Aside0 (wc.heap[gb190]? = some (.cells #[.int .i64 0, (.slice none 0 0)] 29 (0, 0))) ∧ Aside0 (Below w.heap.size w wc))
  case first =>
    have H := HC3.out
    clear HC3
    replace H := Option.bind_eq_some_iff.mp H
    obtain ⟨t191, A60, H⟩ := H
    replace H : (if t191 = true then (if a1 < 1 then (impl_GapsForget.j0 k a1 true a0_0 l0_1) else (impl_GapsForget.j0 k a1 (decide (a1 > a0_0)) a0_0 l0_1)) else (impl_GapsForget.j0 k a1 true a0_0 l0_1)) = some (r1, r2) := H
    have A6 := Aside0.mk A60
    clear A60
    by_cases c7 : t191 = true
    · subst c7
      have H1 : (if a1 < 1 then (impl_GapsForget.j0 k a1 true a0_0 l0_1) else (impl_GapsForget.j0 k a1 (decide (a1 > a0_0)) a0_0 l0_1)) = some (r1, r2) := by rw [if_pos rfl] at H; exact H
      clear H
      have H := H1
      clear H1
      by_cases c8 : a1 < 1
      · rw [if_pos c8] at H
        have c8b0 : decide (a1 < 1) = true := decide_eq_true c8
        clear c8
        (first | rw [c8b0] | (simp only [i64_w, i32_w]; rw [c8b0]) | skip)
        have H' := Aside0.mk H
        clear H
        have hnb9 := NB189_190.out
        have hnc9 := NB190_189.out
        obtain ⟨hcz10_0, hcz10_1, hfz10_0, hfz10_1⟩ := sqc2 BK189
        go_wp2_with (first | ((with_reducible refine gate_callee (f := 72) rfl ?_); refine sqL (some 8) Try.func72 #[.agg #[.int .i64 a0_0, .slice A0_1 l0_1.length c0_1]] ?_; (with_reducible refine (impl_GapsOk.calls k a0_0 _ _ l0_1 true _ ?side1 ?side2 A6.out).mono ?_); (case side1 => repeat (first | exact (Kd.C_below HR0_1.out HB.out) | (with_reducible refine Kd.C_alloc ?_ _) | (with_reducible refine Kd.C_drewN ?_ _) | (with_reducible refine Kd.C_drew ?_))); (case side2 => exact HC0_1.out); rintro e w11 ⟨rfl, hb⟩; refine ⟨_, rfl, ?_⟩; replace BK189 := sqb BK189 hb; replace BK190 := sqb BK190 hb; replace HB := sqs HB hb; (try clear hb)))
        go_meet
        case rel => exact ⟨_, (true), (by first | rfl | (simp; done) | (simp [*]; done)), H', ⟨by first | omega | exact Nat.le_refl _⟩, sqk BK189, sqk BK190, sqh HB⟩
      · rw [if_neg c8] at H
        have c8b0 : decide (a1 < 1) = false := decide_eq_false c8
        clear c8
        (first | rw [c8b0] | (simp only [i64_w, i32_w]; rw [c8b0]) | skip)
        have H' := Aside0.mk H
        clear H
        have hnb12 := NB189_190.out
        have hnc12 := NB190_189.out
        obtain ⟨hcz13_0, hcz13_1, hfz13_0, hfz13_1⟩ := sqc2 BK189
        go_wp2_with (first | ((with_reducible refine gate_callee (f := 72) rfl ?_); refine sqL (some 8) Try.func72 #[.agg #[.int .i64 a0_0, .slice A0_1 l0_1.length c0_1]] ?_; (with_reducible refine (impl_GapsOk.calls k a0_0 _ _ l0_1 true _ ?side1 ?side2 A6.out).mono ?_); (case side1 => repeat (first | exact (Kd.C_below HR0_1.out HB.out) | (with_reducible refine Kd.C_alloc ?_ _) | (with_reducible refine Kd.C_drewN ?_ _) | (with_reducible refine Kd.C_drew ?_))); (case side2 => exact HC0_1.out); rintro e w14 ⟨rfl, hb⟩; refine ⟨_, rfl, ?_⟩; replace BK189 := sqb BK189 hb; replace BK190 := sqb BK190 hb; replace HB := sqs HB hb; (try clear hb); obtain ⟨hcz15_0, hcz15_1, hfz15_0, hfz15_1⟩ := sqc2 BK189))
        go_meet
        case rel => exact ⟨_, (decide (a1 > a0_0)), (by first | rfl | (simp; done) | (simp [*]; done)), H', ⟨by first | omega | exact Nat.le_refl _⟩, sqk BK189, sqk BK190, sqh HB⟩
    · replace c7 := Bool.eq_false_iff.mpr c7
      subst c7
      have H1 : (impl_GapsForget.j0 k a1 true a0_0 l0_1) = some (r1, r2) := by rw [if_neg (show ¬ (false = true) by decide)] at H; exact H
      clear H
      have H := H1
      clear H1
      have H' := Aside0.mk H
      clear H
      have hnb16 := NB189_190.out
      have hnc16 := NB190_189.out
      obtain ⟨hcz17_0, hcz17_1, hfz17_0, hfz17_1⟩ := sqc2 BK189
      go_wp2_with (first | ((with_reducible refine gate_callee (f := 72) rfl ?_); refine sqL (some 8) Try.func72 #[.agg #[.int .i64 a0_0, .slice A0_1 l0_1.length c0_1]] ?_; (with_reducible refine (impl_GapsOk.calls k a0_0 _ _ l0_1 false _ ?side1 ?side2 A6.out).mono ?_); (case side1 => repeat (first | exact (Kd.C_below HR0_1.out HB.out) | (with_reducible refine Kd.C_alloc ?_ _) | (with_reducible refine Kd.C_drewN ?_ _) | (with_reducible refine Kd.C_drew ?_))); (case side2 => exact HC0_1.out); rintro e w18 ⟨rfl, hb⟩; refine ⟨_, rfl, ?_⟩; replace BK189 := sqb BK189 hb; replace BK190 := sqb BK190 hb; replace HB := sqs HB hb; (try clear hb)))
      go_meet
      case rel => exact ⟨_, (true), (by first | rfl | (simp; done) | (simp [*]; done)), H', ⟨by first | omega | exact Nat.le_refl _⟩, sqk BK189, sqk BK190, sqh HB⟩
  case rest =>
    clear HC3
    obtain ⟨kq, x19_2, rfl, HA, HJ2, BK189, BK190, HB⟩ := hcut
    cases kq with
    | zero => exact absurd HA.out (by simp [impl_GapsForget.j0])
    | succ kj2 =>
      have H := HA.out
      clear HA
      simp only [impl_GapsForget.j0] at H
      by_cases c19 : x19_2 = true
      · subst c19
        have H1 : (some (0, ([] : List Int))) = some (r1, r2) := by rw [if_pos rfl] at H; exact H
        clear H
        have H := H1
        clear H1
        simp only [Option.some.injEq, Prod.mk.injEq] at H
        obtain ⟨rfl, rfl⟩ := H
        have hnb20 := NB190_189.out
        have hnc20 := NB189_190.out
        obtain ⟨hcz21_0, hcz21_1, hfz21_0, hfz21_1⟩ := sqc2 BK190
        go_wp2
        refine bodyPost_ret (results_cell_row rfl _ _ gb190 29 #[.int .i64 0, .slice none 0 0] (0, 0) _ rfl (by refine sqt ?_; refine blk_put (cs := #[.int .i64 0, .slice none 0 0]) ?_ 1 _ rfl; refine sqt ?_; refine blk_put (cs := #[.int .i64 0, .slice none 0 0]) ?_ 0 _ rfl; refine sqt ?_; exact BK190.out) Try.underlying29 rfl (by kernel_rfl)) rfl ?_
        exact ⟨_, by first | rfl | (simp [errW_none, errW_some] <;> rfl) | (simp [*, errW_none, errW_some] <;> rfl), by first | exact Kd.R_nil _ _ _ _ _ | exact Kd.N_nil _ _ _ _ _ | exact Kd.V_nil _ _ _ _ _ | exact Kd.Q_nil _ _ _ _ _ | exact Kd.S_nil _ _ _ _ _, by repeat (first | (with_reducible first | exact HB.out | apply below_alloc | apply pw_below_drewN | apply below_drew1 | refine below_set ?_ GE189.out | refine below_set ?_ GE190.out) | exact HB.out)⟩
      · replace c19 := Bool.eq_false_iff.mpr c19
        subst c19
        have H1 : ((impl_Gaps_clone.f a0_0 l0_1).bind fun bt192 => (impl_GapsForget.l0 kj2 a1 (wrap64 (a0_0 + 1)) 0 a0_0 l0_1 bt192.1 bt192.2)) = some (r1, r2) := by rw [if_neg (show ¬ (false = true) by decide)] at H; exact H
        clear H
        have H := H1
        clear H1
        replace H := Option.bind_eq_some_iff.mp H
        obtain ⟨⟨t192, t193⟩, A220, H⟩ := H
        replace H : (impl_GapsForget.l0 kj2 a1 (wrap64 (a0_0 + 1)) 0 a0_0 l0_1 t192 t193) = some (r1, r2) := H
        have A22 := Aside0.mk A220
        clear A220
        have H' := Aside0.mk H
        clear H
        have hnb23 := NB189_190.out
        have hnc23 := NB190_189.out
        obtain ⟨hcz24_0, hcz24_1, hfz24_0, hfz24_1⟩ := sqc2 BK189
        go_wp2_with (first | ((with_reducible refine gate_callee (f := 78) rfl ?_); refine sqL (some 22) Try.func78 #[.agg #[.int .i64 a0_0, .slice A0_1 l0_1.length c0_1]] ?_; (with_reducible refine (impl_Gaps_clone.calls a0_0 _ _ l0_1 t192 t193 _ ?side1 ?side2 A22.out).mono ?_); (case side1 => repeat (first | exact (Kd.C_below HR0_1.out HB.out) | (with_reducible refine Kd.C_alloc ?_ _) | (with_reducible refine Kd.C_drewN ?_ _) | (with_reducible refine Kd.C_drew ?_))); (case side2 => exact HC0_1.out); rintro e w25 ⟨v194, rfl, ho0, hb⟩; refine ⟨_, rfl, ?_⟩; have HO195 := Aside0.mk (Kd.R_lower ho0 (below_size (by repeat (first | (with_reducible first | exact HB.out | apply below_alloc | apply pw_below_drewN | apply below_drew1 | refine below_set ?_ GE189.out | refine below_set ?_ GE190.out) | exact HB.out)))); replace BK189 := sqb BK189 hb; replace BK190 := sqb BK190 hb; replace HB := sqs HB hb; (try clear hb); (try clear hb2); (try clear hk); (try clear hi); (try clear ho0)) | ((with_reducible refine gate_dst (N := 5) rfl ?_); refine sqx 5 #[.int .i64 0, .slice none 0 0] 29 ?_; intro gb196 hg w26 hbox hb; have n0_ := Aside0.mk (Kd.R_below (by (with_reducible repeat (first | apply Kd.R_alloc | apply Kd.R_drewN | apply Kd.R_drew)); exact HO195.out) hb); have n1_ := sqb BK189 hb; have n2_ := sqb BK190 hb; have n3_ := sqs HB hb; have n4_ := Aside0.mk (hbox); have n5_ := sqg HB hg; have n6_ := sqg HB hg; have n7_ := sqn BK189 hg; have n8_ := sqm BK189 hg; have n9_ := sqn BK190 hg; have n10_ := sqm BK190 hg; clear HO195; clear BK189; clear BK190; clear HB; have HO195 := n0_; have BK189 := n1_; have BK190 := n2_; have HB := n3_; have BK196 := n4_; have GW196 := n5_; have GE196 := n6_; have NB189_196 := n7_; have NB196_189 := n8_; have NB190_196 := n9_; have NB196_190 := n10_; clear n0_ n1_ n2_ n3_ n4_ n5_ n6_ n7_ n8_ n9_ n10_; clear hb hbox hg; have hnb27 := NB196_189.out; have hnc27 := NB189_196.out; have hnb28 := NB196_190.out; have hnc28 := NB190_196.out; obtain ⟨hcz29_0, hcz29_1, hfz29_0, hfz29_1⟩ := sqc2 BK196; obtain ⟨Ao30, co30, eo30⟩ := Kd.R_slice HO195.out; subst eo30; obtain ⟨hcz31_0, hcz31_1, hfz31_0, hfz31_1⟩ := sqc2 BK189))
        go_loopg [26] kj2 (fun kq v26 w' => ∃ (x26_2 : Int) (x197001_2 : List Int) (u197001 : Value), v26 = .int .i64 x26_2 ∧ Aside0 (impl_GapsForget.l0 kq a1 (wrap64 (a0_0 + 1)) x26_2 a0_0 l0_1 t192 x197001_2 = some (r1, r2)) ∧ Aside0 (kq ≤ kj2) ∧ Aside0 (Kd.R (Kd.int .i64) 3 w' w.heap.size (fun _ => True) u197001 x197001_2) ∧ Aside0 (w'.heap[gb189]? = some (.cells #[.int .i64 a0_0, (.slice A0_1 l0_1.length c0_1)] 29 (0, 0))) ∧ Aside0 (w'.heap[gb190]? = some (.cells #[.int .i64 0, (.slice none 0 0)] 29 (0, 0))) ∧ Aside0 (w'.heap[gb196]? = some (.cells #[.int .i64 t192, u197001] 29 (0, 0))) ∧ Aside0 (Below w.heap.size w w'))
        case atStart => exact ⟨(0), (t193), (.slice Ao30 t193.length co30), (by first | rfl | (simp; done) | (simp [*]; done)), H', ⟨Nat.le_refl _⟩, ⟨by (with_reducible repeat (first | apply Kd.R_alloc | apply Kd.R_drewN | apply Kd.R_drew)); exact Kd.R_mono (Kd.R_far (p := ⟨gb196, 1, none⟩) (Kd.R_far (p := ⟨gb196, 0, none⟩) (Kd.R_types HO195.out BK196.out (by decide)) (fun _ hk => hk.2) (.int .i64 t192)) (fun _ hk => hk.2) (.slice Ao30 t193.length co30)) (fun _ hk => trivial)⟩, ⟨by refine sqt ?_; refine blk_far ?_ NB189_196.out _; refine sqt ?_; refine blk_far ?_ NB189_196.out _; refine sqt ?_; exact BK189.out⟩, ⟨by refine sqt ?_; refine blk_far ?_ NB190_196.out _; refine sqt ?_; refine blk_far ?_ NB190_196.out _; refine sqt ?_; exact BK190.out⟩, ⟨by refine sqt ?_; refine blk_put (cs := #[.int .i64 t192, .slice none 0 0]) ?_ 1 _ rfl; refine sqt ?_; refine blk_put (cs := #[.int .i64 0, .slice none 0 0]) ?_ 0 _ rfl; refine sqt ?_; exact BK196.out⟩, sqh HB⟩
        case round =>
          clear H'
          try clear c1
          try clear c2
          try clear p2
          try clear p6
          try clear c7
          try clear c8
          try clear c8b0
          try clear c9
          try clear c12
          try clear c16
          try clear c19
          try clear c20
          try clear c23
          try clear c27
          try clear c28
          try clear c29
          try clear hcz10_0
          try clear hcz10_1
          try clear hcz13_0
          try clear hcz13_1
          try clear hcz15_0
          try clear hcz15_1
          try clear hcz17_0
          try clear hcz17_1
          try clear hcz21_0
          try clear hcz21_1
          try clear hcz24_0
          try clear hcz24_1
          try clear hcz29_0
          try clear hcz29_1
          try clear hcz31_0
          try clear hcz31_1
          try clear hfz10_0
          try clear hfz10_1
          try clear hfz13_0
          try clear hfz13_1
          try clear hfz15_0
          try clear hfz15_1
          try clear hfz17_0
          try clear hfz17_1
          try clear hfz21_0
          try clear hfz21_1
          try clear hfz24_0
          try clear hfz24_1
          try clear hfz29_0
          try clear hfz29_1
          try clear hfz31_0
          try clear hfz31_1
          try clear p2
          obtain ⟨x26_2, x197001_2, u197001, rfl, HA, HK2, HO_197001, BK189, BK190, BK196, HB⟩ := hrel
          cases gk with
          | zero => exact absurd HA.out (by simp [impl_GapsForget.l0])
          | succ k2 =>
            have H := HA.out
            clear HA
            simp only [impl_GapsForget.l0] at H
            by_cases c32 : x26_2 < (wrap64 (a0_0 + 1))
            · rw [if_pos c32] at H
              have c32b0 : decide (x26_2 < (wrap64 (a0_0 + 1))) = true := decide_eq_true c32
              clear c32
              by_cases c33 : x26_2 = a1
              · rw [if_pos c33] at H
                have c33b0 : (x26_2 == a1) = true := beq_iff_eq.mpr c33
                have c33b1 : (x26_2 != a1) = false := bne_eq_false_iff_eq.mpr c33
                clear c33
                have H' := Aside0.mk H
                clear H
                go_wp2
                go_roundg k2
                case measure => have := HJ2.out; have := HK2.out; omega
                case rel => exact ⟨(wrap64 (x26_2 + 1)), (x197001_2), (u197001), (by first | rfl | (simp; done) | (simp [*]; done)), H', ⟨by have := HJ2.out; have := HK2.out; omega⟩, ⟨by (with_reducible repeat (first | apply Kd.R_alloc | apply Kd.R_drewN | apply Kd.R_drew)); exact HO_197001.out⟩, sqk BK189, sqk BK190, sqk BK196, sqh HB⟩
              · rw [if_neg c33] at H
                have c33b0 : (x26_2 == a1) = false := beq_eq_false_iff_ne.mpr c33
                have c33b1 : (x26_2 != a1) = true := bne_iff_ne.mpr c33
                replace H := Option.bind_eq_some_iff.mp H
                obtain ⟨t197, A340, H⟩ := H
                replace H : (if 0 ≤ t197 then (if t197 < (x197001_2.length : Int) then ((impl_Gaps_at.f a0_0 l0_1 x26_2 a1).bind fun t199 => (if 0 ≤ t199 then (if t199 < (x197001_2.length : Int) then (impl_GapsForget.l0 k2 a1 (wrap64 (a0_0 + 1)) (wrap64 (x26_2 + 1)) a0_0 l0_1 t192 ((x197001_2.set (t197 : Int).toNat 1099511627776).set (t199 : Int).toNat 1099511627776)) else (none)) else (none))) else (none)) else (none)) = some (r1, r2) := H
                have A34 := Aside0.mk A340
                clear A340
                by_cases c35 : 0 ≤ t197
                · rw [if_pos c35] at H
                  have c35b0 : decide (0 ≤ t197) = true := decide_eq_true c35
                  clear c35
                  by_cases c36 : t197 < (x197001_2.length : Int)
                  · rw [if_pos c36] at H
                    have c36b0 : decide (t197 < (x197001_2.length : Int)) = true := decide_eq_true c36
                    clear c36
                    obtain ⟨y198, hy198⟩ : ∃ y_ : List Int, y_ = (x197001_2.set (t197 : Int).toNat 1099511627776) := ⟨_, rfl⟩
                    replace H : ((impl_Gaps_at.f a0_0 l0_1 x26_2 a1).bind fun t199 => (if 0 ≤ t199 then (if t199 < (x197001_2.length : Int) then (impl_GapsForget.l0 k2 a1 (wrap64 (a0_0 + 1)) (wrap64 (x26_2 + 1)) a0_0 l0_1 t192 (y198.set (t199 : Int).toNat 1099511627776)) else (none)) else (none))) = some (r1, r2) := by first | (rw [hy198]; with_reducible exact H) | (have H2_ := (Option.bind_some _ _).symm.trans H; rw [hy198]; with_reducible exact H2_) | (have H2_ := (Option.bind_some _ _).symm.trans H; with_reducible exact H2_) | with_reducible exact H | (rw [hy198]; exact H) | exact H
                    have Ny198 := Aside0.mk hy198
                    clear hy198
                    replace H := Option.bind_eq_some_iff.mp H
                    obtain ⟨t199, A380, H⟩ := H
                    replace H : (if 0 ≤ t199 then (if t199 < (x197001_2.length : Int) then (impl_GapsForget.l0 k2 a1 (wrap64 (a0_0 + 1)) (wrap64 (x26_2 + 1)) a0_0 l0_1 t192 (y198.set (t199 : Int).toNat 1099511627776)) else (none)) else (none)) = some (r1, r2) := H
                    have A38 := Aside0.mk A380
                    clear A380
                    by_cases c39 : 0 ≤ t199
                    · rw [if_pos c39] at H
                      have c39b0 : decide (0 ≤ t199) = true := decide_eq_true c39
                      clear c39
                      by_cases c40 : t199 < (x197001_2.length : Int)
                      · rw [if_pos c40] at H
                        have c40b0 : decide (t199 < (x197001_2.length : Int)) = true := decide_eq_true c40
                        clear c40
                        obtain ⟨y200, hy200⟩ : ∃ y_ : List Int, y_ = (y198.set (t199 : Int).toNat 1099511627776) := ⟨_, rfl⟩
                        replace H : (impl_GapsForget.l0 k2 a1 (wrap64 (a0_0 + 1)) (wrap64 (x26_2 + 1)) a0_0 l0_1 t192 y200) = some (r1, r2) := by first | (rw [hy200]; with_reducible exact H) | (have H2_ := (Option.bind_some _ _).symm.trans H; rw [hy200]; with_reducible exact H2_) | (have H2_ := (Option.bind_some _ _).symm.trans H; with_reducible exact H2_) | with_reducible exact H | (rw [hy200]; exact H) | exact H
                        have Ny200 := Aside0.mk hy200
                        clear hy200
                        have H' := Aside0.mk H
                        clear H
                        try go_wp2
                        replace HO_197001 := Aside0.mk (Kd.R_drew HO_197001.out)
                        replace BK189 := Aside0.mk (blk_drew BK189.out)
                        replace BK190 := Aside0.mk (blk_drew BK190.out)
                        replace BK196 := Aside0.mk (blk_drew BK196.out)
                        replace HB := Aside0.mk (below_drew1 HB.out)
                        refine start_ (n := 8) (S := fun w' => w'.cell? ⟨gb196, 0, none⟩ = some (.int .i64 t192) ∧ w'.cell? ⟨gb196, 1, none⟩ = some (u197001) ∧ w'.cell? ⟨gb189, 0, none⟩ = some (.int .i64 a0_0) ∧ w'.cell? ⟨gb189, 1, none⟩ = some (.slice A0_1 l0_1.length c0_1)) (ds := [7]) #[false, false, false, false, false, false, false, false] (by kernel_rfl) rfl rfl ⟨(blk_cell BK196.out 0).trans rfl, (blk_cell BK196.out 1).trans rfl, (blk_cell BK189.out 0).trans rfl, (blk_cell BK189.out 1).trans rfl⟩ (fun hHeld => ?_); refine with_tabW impl_GapsForget.tab8 impl_GapsForget.bits8 (fun HT_ HW_ => ?_)
                        generalize wr.drew = w42 at HO_197001 BK189 BK190 BK196 HB hHeld ⊢
                        refine sqp HT_ 0 32 ?_
                        refine sqp HT_ 3 35 ?_
                        refine sqp HT_ 4 36 ?_
                        refine sqw HT_ HW_ 1 33 hHeld ?_
                        refine sqw HT_ HW_ 2 34 hHeld ?_
                        refine sqo HT_ 5 37 (fun K hK => ?_)
                        refine sqG Try.func75 #[.agg #[.int .i64 a0_0, .slice A0_1 l0_1.length c0_1], .int .i64 a1, .int .i64 x26_2] ?_
                        with_reducible refine (impl_Gaps_at.calls a0_0 _ _ l0_1 a1 x26_2 t197 _ ?side1 ?side2 A34.out).mono ?_
                        (case side1 => repeat (first | exact (Kd.C_below HR0_1.out HB.out) | (with_reducible refine Kd.C_alloc ?_ _) | (with_reducible refine Kd.C_drewN ?_ _) | (with_reducible refine Kd.C_drew ?_)))
                        (case side2 => exact HC0_1.out)
                        rintro e w43 ⟨rfl, hb⟩
                        refine ⟨_, rfl, ?_⟩
                        have n0_ := Aside0.mk (Kd.R_below (by (with_reducible repeat (first | apply Kd.R_alloc | apply Kd.R_drewN | apply Kd.R_drew)); exact HO_197001.out) hb)
                        have n1_ := sqb BK189 hb
                        have n2_ := sqb BK190 hb
                        have n3_ := sqb BK196 hb
                        have n4_ := sqs HB hb
                        clear HO_197001
                        clear BK189
                        clear BK190
                        clear BK196
                        clear HB
                        have HO_197001 := n0_
                        have BK189 := n1_
                        have BK190 := n2_
                        have BK196 := n3_
                        have HB := n4_
                        clear n0_ n1_ n2_ n3_ n4_
                        (try clear hb)
                        have p37 : 0 ≤ (t197 : Int) := of_decide_eq_true (by first | (with_reducible assumption) | assumption)
                        have q37 : (t197 : Int) < ((x197001_2.length : Int) : Int) := of_decide_eq_true (by first | (with_reducible assumption) | assumption)
                        obtain ⟨go37, co37, eo37, gb37, gl37, cl37, HG37⟩ := Kd.R_form HO_197001.out (by omega)
                        (first | cases eo37 | (injection eo37 with ea_ en_ ec_; (first | subst ea_ | (injection ea_ with ea_; subst ea_)); subst ec_; clear en_))
                        have GB37 := Aside0.mk gb37
                        have GG37 := Aside0.mk HG37
                        clear gb37 gl37 HG37
                        obtain ⟨hx37_0, hf37_0⟩ := Kd.R_celln 0 HO_197001.out (t197 : Int) p37 q37
                        replace p37 := eq_true p37
                        replace q37 := eq_true q37
                        have HP44 := Kd.R_putn HO_197001.out (t197 : Int) 1099511627776
                        rw [← Ny198.out] at HP44
                        have HQ44 := Aside0.mk HP44
                        clear HP44
                        refine hK.out _ _ sqz (fun hHeld => ?_)
                        clear hK K
                        refine sqnm ?_
                        refine sqp HT_ 6 38 ?_
                        refine last_ (i := 7) (N := none) #[true, true, true, true, true, true, true, true] rfl rfl (one_of HT_.out (by kernel_rfl)) (by decide) (fun K hK => ?_)
                        refine skip_ (w1 := ?_) (by rfl) rfl ?_ ?_
                        rotate_left
                        · go_simp
                          rfl
                        refine hK.out _ _ ?_
                        clear hK K
                        refine done_ (done_of HT_.out (by kernel_rfl)) ?_
                        try go_wp2
                        have n0_ : Aside0 (Kd.R (Kd.int .i64) 3 (w43.setCell ⟨go37, (t197 : Int).toNat, none⟩ (.int .i64 1099511627776)) w.heap.size (fun _ => True) (.slice (some ⟨go37, 0, none⟩) x197001_2.length co37) y198) := ⟨by (with_reducible repeat (first | apply Kd.R_alloc | apply Kd.R_drewN | apply Kd.R_drew)); exact HQ44.out⟩
                        have n1_ : Aside0 ((w43.setCell ⟨go37, (t197 : Int).toNat, none⟩ (.int .i64 1099511627776)).heap[gb189]? = some (.cells #[.int .i64 a0_0, .slice A0_1 l0_1.length c0_1] 29 (0, 0))) := ⟨by refine sqt ?_; refine blk_far ?_ (by have h_ := Kd.R_ne HO_197001.out BK189.out (by decide); intro e_; exact h_ (by rw [e_]; rfl)) _; refine sqt ?_; exact BK189.out⟩
                        have n2_ : Aside0 ((w43.setCell ⟨go37, (t197 : Int).toNat, none⟩ (.int .i64 1099511627776)).heap[gb190]? = some (.cells #[.int .i64 0, .slice none 0 0] 29 (0, 0))) := ⟨by refine sqt ?_; refine blk_far ?_ (by have h_ := Kd.R_ne HO_197001.out BK190.out (by decide); intro e_; exact h_ (by rw [e_]; rfl)) _; refine sqt ?_; exact BK190.out⟩
                        have n3_ : Aside0 ((w43.setCell ⟨go37, (t197 : Int).toNat, none⟩ (.int .i64 1099511627776)).heap[gb196]? = some (.cells #[.int .i64 t192, .slice (some ⟨go37, 0, none⟩) x197001_2.length co37] 29 (0, 0))) := ⟨by refine sqt ?_; refine blk_far ?_ (by have h_ := Kd.R_ne HO_197001.out BK196.out (by decide); intro e_; exact h_ (by rw [e_]; rfl)) _; refine sqt ?_; exact BK196.out⟩
                        have n4_ : Aside0 (Below w.heap.size w (w43.setCell ⟨go37, (t197 : Int).toNat, none⟩ (.int .i64 1099511627776))) := ⟨by repeat (first | (with_reducible first | exact HB.out | apply below_alloc | apply pw_below_drewN | apply below_drew1 | refine below_set ?_ GB37.out | refine below_set ?_ GE189.out | refine below_set ?_ GE190.out | refine below_set ?_ GE196.out) | exact HB.out)⟩
                        (try clear HO_197001)
                        (try clear BK189)
                        (try clear BK190)
                        (try clear BK196)
                        (try clear HB)
                        generalize (w43.setCell ⟨go37, (t197 : Int).toNat, none⟩ (.int .i64 1099511627776)) = w45 at n0_ n1_ n2_ n3_ n4_ ⊢
                        have HO_197001 := n0_
                        have BK189 := n1_
                        have BK190 := n2_
                        have BK196 := n3_
                        have HB := n4_
                        clear n0_ n1_ n2_ n3_ n4_
                        replace HO_197001 := Aside0.mk (Kd.R_drew HO_197001.out)
                        replace BK189 := Aside0.mk (blk_drew BK189.out)
                        replace BK190 := Aside0.mk (blk_drew BK190.out)
                        replace BK196 := Aside0.mk (blk_drew BK196.out)
                        replace HB := Aside0.mk (below_drew1 HB.out)
                        refine start_ (n := 8) (S := fun w' => w'.cell? ⟨gb196, 0, none⟩ = some (.int .i64 t192) ∧ w'.cell? ⟨gb196, 1, none⟩ = some (.slice (some ⟨go37, 0, none⟩) x197001_2.length co37) ∧ w'.cell? ⟨gb189, 0, none⟩ = some (.int .i64 a0_0) ∧ w'.cell? ⟨gb189, 1, none⟩ = some (.slice A0_1 l0_1.length c0_1)) (ds := [7]) #[false, false, false, false, false, false, false, false] (by kernel_rfl) rfl rfl ⟨(blk_cell BK196.out 0).trans rfl, (blk_cell BK196.out 1).trans rfl, (blk_cell BK189.out 0).trans rfl, (blk_cell BK189.out 1).trans rfl⟩ (fun hHeld => ?_); refine with_tabW impl_GapsForget.tab9 impl_GapsForget.bits9 (fun HT_ HW_ => ?_)
                        generalize w45.drew = w46 at HO_197001 BK189 BK190 BK196 HB HQ44 hHeld ⊢
                        refine sqp HT_ 0 39 ?_
                        refine sqp HT_ 3 42 ?_
                        refine sqp HT_ 4 43 ?_
                        refine sqw HT_ HW_ 1 40 hHeld ?_
                        refine sqw HT_ HW_ 2 41 hHeld ?_
                        refine sqo HT_ 5 44 (fun K hK => ?_)
                        refine sqG Try.func75 #[.agg #[.int .i64 a0_0, .slice A0_1 l0_1.length c0_1], .int .i64 x26_2, .int .i64 a1] ?_
                        with_reducible refine (impl_Gaps_at.calls a0_0 _ _ l0_1 x26_2 a1 t199 _ ?side1 ?side2 A38.out).mono ?_
                        (case side1 => repeat (first | exact (Kd.C_below HR0_1.out HB.out) | (with_reducible refine Kd.C_alloc ?_ _) | (with_reducible refine Kd.C_drewN ?_ _) | (with_reducible refine Kd.C_drew ?_)))
                        (case side2 => exact HC0_1.out)
                        rintro e w47 ⟨rfl, hb⟩
                        refine ⟨_, rfl, ?_⟩
                        have n0_ := Aside0.mk (Kd.R_below (by (with_reducible repeat (first | apply Kd.R_alloc | apply Kd.R_drewN | apply Kd.R_drew)); exact HO_197001.out) hb)
                        have n1_ := sqb BK189 hb
                        have n2_ := sqb BK190 hb
                        have n3_ := sqb BK196 hb
                        have n4_ := sqs HB hb
                        clear HO_197001
                        clear BK189
                        clear BK190
                        clear BK196
                        clear HB
                        have HO_197001 := n0_
                        have BK189 := n1_
                        have BK190 := n2_
                        have BK196 := n3_
                        have HB := n4_
                        clear n0_ n1_ n2_ n3_ n4_
                        (try clear hb)
                        have p41 : 0 ≤ (t199 : Int) := of_decide_eq_true (by first | (with_reducible assumption) | assumption)
                        have q41 : (t199 : Int) < ((x197001_2.length : Int) : Int) := of_decide_eq_true (by first | (with_reducible assumption) | assumption)
                        obtain ⟨hx41_0, hf41_0⟩ := Kd.R_celln 0 HO_197001.out (t199 : Int) p41 q41
                        replace p41 := eq_true p41
                        replace q41 := eq_true q41
                        have HP48 := Kd.R_putn HO_197001.out (t199 : Int) 1099511627776
                        rw [← Ny200.out] at HP48
                        have HQ48 := Aside0.mk HP48
                        clear HP48
                        refine hK.out _ _ sqz (fun hHeld => ?_)
                        clear hK K
                        refine sqnm ?_
                        refine sqp HT_ 6 45 ?_
                        refine last_ (i := 7) (N := none) #[true, true, true, true, true, true, true, true] rfl rfl (one_of HT_.out (by kernel_rfl)) (by decide) (fun K hK => ?_)
                        refine skip_ (w1 := ?_) (by rfl) rfl ?_ ?_
                        rotate_left
                        · go_simp
                          rfl
                        refine hK.out _ _ ?_
                        clear hK K
                        refine done_ (done_of HT_.out (by kernel_rfl)) ?_
                        try go_wp2
                        go_roundg k2
                        case measure => have := HJ2.out; have := HK2.out; omega
                        case rel => exact ⟨(wrap64 (x26_2 + 1)), (y200), (.slice (some ⟨go37, 0, none⟩) x197001_2.length co37), (by first | rfl | (simp; done) | (simp [*]; done)), H', ⟨by have := HJ2.out; have := HK2.out; omega⟩, ⟨by (with_reducible repeat (first | apply Kd.R_alloc | apply Kd.R_drewN | apply Kd.R_drew)); exact HQ48.out⟩, ⟨by refine sqt ?_; refine blk_far ?_ (by have h_ := Kd.R_ne HO_197001.out BK189.out (by decide); intro e_; exact h_ (by rw [e_]; rfl)) _; refine sqt ?_; exact BK189.out⟩, ⟨by refine sqt ?_; refine blk_far ?_ (by have h_ := Kd.R_ne HO_197001.out BK190.out (by decide); intro e_; exact h_ (by rw [e_]; rfl)) _; refine sqt ?_; exact BK190.out⟩, ⟨by refine sqt ?_; refine blk_far ?_ (by have h_ := Kd.R_ne HO_197001.out BK196.out (by decide); intro e_; exact h_ (by rw [e_]; rfl)) _; refine sqt ?_; exact BK196.out⟩, ⟨by repeat (first | (with_reducible first | exact HB.out | apply below_alloc | apply pw_below_drewN | apply below_drew1 | refine below_set ?_ GB37.out | refine below_set ?_ GE189.out | refine below_set ?_ GE190.out | refine below_set ?_ GE196.out) | exact HB.out)⟩⟩
                      · rw [if_neg c40] at H
                        exact absurd H (by simp)
                    · rw [if_neg c39] at H
                      exact absurd H (by simp)
                  · rw [if_neg c36] at H
                    exact absurd H (by simp)
                · rw [if_neg c35] at H
                  exact absurd H (by simp)
            · rw [if_neg c32] at H
              have c32b0 : decide (x26_2 < (wrap64 (a0_0 + 1))) = false := decide_eq_false c32
              clear c32
              simp only [Option.some.injEq, Prod.mk.injEq] at H
              obtain ⟨rfl, rfl⟩ := H
              have hnb49 := NB196_189.out
              have hnc49 := NB189_196.out
              have hnb50 := NB196_190.out
              have hnc50 := NB190_196.out
              obtain ⟨hcz51_0, hcz51_1, hfz51_0, hfz51_1⟩ := sqc2 BK196
              have hnb52 := NB190_189.out
              have hnc52 := NB189_190.out
              obtain ⟨hcz53_0, hcz53_1, hfz53_0, hfz53_1⟩ := sqc2 BK190
              obtain ⟨Ao54, co54, eo54⟩ := Kd.R_slice HO_197001.out
              subst eo54
              go_wp2
              refine bodyPost_ret (results_cell_row rfl _ _ gb190 29 #[.int .i64 t192, .slice Ao54 x197001_2.length co54] (0, 0) _ rfl (by refine sqt ?_; refine blk_put (cs := #[.int .i64 t192, .slice none 0 0]) ?_ 1 _ rfl; refine sqt ?_; refine blk_put (cs := #[.int .i64 0, .slice none 0 0]) ?_ 0 _ rfl; refine sqt ?_; exact BK190.out) Try.underlying29 rfl (by kernel_rfl)) rfl ?_
              exact ⟨_, by first | rfl | (simp [errW_none, errW_some] <;> rfl) | (simp [*, errW_none, errW_some] <;> rfl), by (with_reducible repeat (first | apply Kd.R_alloc | apply Kd.R_drewN | apply Kd.R_drew)); exact Kd.R_mono (Kd.R_far (p := ⟨gb190, 1, none⟩) (Kd.R_far (p := ⟨gb190, 0, none⟩) (Kd.R_types HO_197001.out BK190.out (by decide)) (fun _ hk => hk.2) (.int .i64 t192)) (fun _ hk => hk.2) (.slice Ao54 x197001_2.length co54)) (fun _ hk => trivial), by repeat (first | (with_reducible first | exact HB.out | apply below_alloc | apply pw_below_drewN | apply below_drew1 | refine below_set ?_ GE189.out | refine below_set ?_ GE190.out | refine below_set ?_ GE196.out) | exact HB.out)⟩

/-! ### impl_gapsTogether: function 86 -/
set_option maxHeartbeats 8000000 in
set_option maxRecDepth 100000 in
theorem impl_gapsTogether.calls (a0 : Int) (a1 : Int) (r : Int) (w : World) (h : impl_gapsTogether.f a0 a1 = some r) :
    Calls Try.prog 86 #[.int .i64 a0, .int .i64 a1] w fun e w' => e = .returned (.int .i64 r) ∧ Drawn0 w w' := by
  have H : (if a0 = 1099511627776 then (some 1099511627776) else (if a1 = 1099511627776 then (some 1099511627776) else (if (wrap64 (a0 + a1)) ≥ 1099511627776 then (some 1099511627776) else (some (wrap64 (a0 + a1)))))) = some r := h
  clear h
  by_cases c3 : a0 = 1099511627776
  · rw [if_pos c3] at H
    have c3b0 : (a0 == 1099511627776) = true := beq_iff_eq.mpr c3
    have c3b1 : (a0 != 1099511627776) = false := bne_eq_false_iff_eq.mpr c3
    clear c3
    obtain rfl := Option.some.inj H
    go_enter Try.func86, Try.ntmps86
    go_wp2
    go_ret
    exact ⟨by first | rfl | (simp; done) | (simp [*]; done), by repeat (first | exact Drawn0.refl _ | apply Drawn0.step)⟩
  · rw [if_neg c3] at H
    have c3b0 : (a0 == 1099511627776) = false := beq_eq_false_iff_ne.mpr c3
    have c3b1 : (a0 != 1099511627776) = true := bne_iff_ne.mpr c3
    by_cases c4 : a1 = 1099511627776
    · rw [if_pos c4] at H
      have c4b0 : (a1 == 1099511627776) = true := beq_iff_eq.mpr c4
      have c4b1 : (a1 != 1099511627776) = false := bne_eq_false_iff_eq.mpr c4
      clear c4
      obtain rfl := Option.some.inj H
      go_enter Try.func86, Try.ntmps86
      go_wp2
      go_ret
      exact ⟨by first | rfl | (simp; done) | (simp [*]; done), by repeat (first | exact Drawn0.refl _ | apply Drawn0.step)⟩
    · rw [if_neg c4] at H
      have c4b0 : (a1 == 1099511627776) = false := beq_eq_false_iff_ne.mpr c4
      have c4b1 : (a1 != 1099511627776) = true := bne_iff_ne.mpr c4
      by_cases c5 : (wrap64 (a0 + a1)) ≥ 1099511627776
      · rw [if_pos c5] at H
        have c5b0 : decide (1099511627776 ≤ (wrap64 (a0 + a1))) = true := decide_eq_true c5
        clear c5
        obtain rfl := Option.some.inj H
        go_enter Try.func86, Try.ntmps86
        go_wp2
        go_ret
        exact ⟨by first | rfl | (simp; done) | (simp [*]; done), by repeat (first | exact Drawn0.refl _ | apply Drawn0.step)⟩
      · rw [if_neg c5] at H
        have c5b0 : decide (1099511627776 ≤ (wrap64 (a0 + a1))) = false := decide_eq_false c5
        clear c5
        obtain rfl := Option.some.inj H
        go_enter Try.func86, Try.ntmps86
        go_wp2
        go_ret
        exact ⟨by first | rfl | (simp; done) | (simp [*]; done), by repeat (first | exact Drawn0.refl _ | apply Drawn0.step)⟩

end Go.Proofs.Ytmdcgkkkfncieaa.PFnExactGapsMove
