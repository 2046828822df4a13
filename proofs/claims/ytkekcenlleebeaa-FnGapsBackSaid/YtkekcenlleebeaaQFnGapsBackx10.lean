/- Functions of the program as plain Lean functions, and that calls of them come to what these tell. Conditions: those in each law. -/
import Derived.Test.YtkekcenlleebeaaSq
import Derived.Test.YtkekcenlleebeaaDFnGapsBack
import Derived.Test.YtkekcenlleebeaaQFnGapsBackx0
import Derived.Test.YtkekcenlleebeaaQFnGapsBackx3
namespace Go.Proofs.Ytkekcenlleebeaa.PFnGapsBack
open Go.RowKit Go.Proofs.Ytkekcenlleebeaa.Sq Go.Proofs.YtkekcenlleebeaaW.PrintWords Go.Proofs.YtkekcenlleebeaaW.PrintLast Go.Proofs.YtkekcenlleebeaaW.PrintMore
attribute [local go_sem] max2_int min2_int max_two min_two max_three min_three max_four min_four   -- for this text's walks alone
set_option linter.unusedVariables false
set_option linter.unusedSimpArgs false

/-! ### spec_GapsForget: function 51 -/
theorem spec_GapsForget.mono_l : ∀ k, (∀ y0 y1 y2 y3, LeO (spec_GapsForget.j0 k y0 y1 y2 y3) (spec_GapsForget.j0 (k + 1) y0 y1 y2 y3)) ∧ (∀ y0 y1 y2 y3 y4 y5, LeO (spec_GapsForget.l0 k y0 y1 y2 y3 y4 y5) (spec_GapsForget.l0 (k + 1) y0 y1 y2 y3 y4 y5))
  | 0 => ⟨fun _ _ _ _ r h => by simp [spec_GapsForget.j0] at h, fun _ _ _ _ _ _ r h => by simp [spec_GapsForget.l0] at h⟩
  | k + 1 => by
    obtain ⟨ih0, ih1⟩ := spec_GapsForget.mono_l k
    refine ⟨?_, ?_⟩
    · intro y0 y1 y2 y3
      unfold spec_GapsForget.j0
      repeat' first
      | (with_reducible exact ih0 _ _ _ _)
      | (with_reducible exact ih1 _ _ _ _ _ _)
      | (with_reducible exact spec_GapsOk.mono _ _ _)
      | (with_reducible exact spec_l11Copy.mono _ _ _)
      | (with_reducible exact LeO.refl _)
      | (with_reducible exact LeO.none _)
      | (with_reducible refine LeO.ite ?_ ?_)
      | (with_reducible refine LeO.bind ?_ (fun _ => ?_))
      | exact ih0 _ _ _ _
      | exact ih1 _ _ _ _ _ _
      | exact spec_GapsOk.mono _ _ _
      | exact spec_l11Copy.mono _ _ _
      | exact LeO.none _
      | refine LeO.ite ?_ ?_
      | refine LeO.bind ?_ (fun _ => ?_)
    · intro y0 y1 y2 y3 y4 y5
      unfold spec_GapsForget.l0
      repeat' first
      | (with_reducible exact ih0 _ _ _ _)
      | (with_reducible exact ih1 _ _ _ _ _ _)
      | (with_reducible exact spec_GapsOk.mono _ _ _)
      | (with_reducible exact spec_l11Copy.mono _ _ _)
      | (with_reducible exact LeO.refl _)
      | (with_reducible exact LeO.none _)
      | (with_reducible refine LeO.ite ?_ ?_)
      | (with_reducible refine LeO.bind ?_ (fun _ => ?_))
      | exact ih0 _ _ _ _
      | exact ih1 _ _ _ _ _ _
      | exact spec_GapsOk.mono _ _ _
      | exact spec_l11Copy.mono _ _ _
      | exact LeO.none _
      | refine LeO.ite ?_ ?_
      | refine LeO.bind ?_ (fun _ => ?_)
theorem spec_GapsForget.mono : ∀ a0 a1 a2 k, LeO (spec_GapsForget.f k a0 a1 a2) (spec_GapsForget.f (k + 1) a0 a1 a2) := by
  intro a0 a1 a2 k
  obtain ⟨ih0, ih1⟩ := spec_GapsForget.mono_l k
  unfold spec_GapsForget.f
  repeat' first
      | (with_reducible exact ih0 _ _ _ _)
      | (with_reducible exact ih1 _ _ _ _ _ _)
      | (with_reducible exact spec_GapsOk.mono _ _ _)
      | (with_reducible exact spec_l11Copy.mono _ _ _)
      | (with_reducible exact LeO.refl _)
      | (with_reducible exact LeO.none _)
      | (with_reducible refine LeO.ite ?_ ?_)
      | (with_reducible refine LeO.bind ?_ (fun _ => ?_))
      | exact ih0 _ _ _ _
      | exact ih1 _ _ _ _ _ _
      | exact spec_GapsOk.mono _ _ _
      | exact spec_l11Copy.mono _ _ _
      | exact LeO.none _
      | refine LeO.ite ?_ ?_
      | refine LeO.bind ?_ (fun _ => ?_)
set_option maxHeartbeats 8000000 in
set_option maxRecDepth 100000 in
theorem spec_GapsForget.calls (k : Nat) (a0_0 : Int) (A0_1 : Option Addr) (c0_1 : Nat) (l0_1 : List Int) (a1 : Int) (r1 : Int) (r2 : List Int) (w : World) (hr0_1 : Kd.C (Kd.int .i64) w A0_1 l0_1.length l0_1) (hc0_1 : l0_1.length ≤ c0_1) (h : spec_GapsForget.f k a0_0 l0_1 a1 = some (r1, r2)) :
    Calls Try.prog 51 #[.agg #[.int .i64 a0_0, .slice A0_1 l0_1.length c0_1], .int .i64 a1] w fun e w' => ∃ v1_ : Value, e = .returned (.agg #[.int .i64 r1, v1_]) ∧ Kd.R (Kd.int .i64) 3 w' w.heap.size (fun _ => True) v1_ r2 ∧ Below w.heap.size w w' := by
  have hu41 := Try.underlying41
  have HR0_1 := Aside0.mk hr0_1
  have HC0_1 := Aside0.mk hc0_1
  clear hr0_1 hc0_1
  have HB := Aside0.mk (Below.refl w.heap.size w)
  have H : ((spec_GapsOk.f k a0_0 l0_1).bind fun t321 => (if t321 = true then ((spec_l1In.f a1 1 a0_0).bind fun t322 => (spec_GapsForget.j0 k a1 (!t322) a0_0 l0_1)) else (spec_GapsForget.j0 k a1 true a0_0 l0_1))) = some (r1, r2) := h
  clear h
  have HC3 := Aside0.mk H
  clear H
  go_enter Try.func51, Try.ntmps51
  go_upto_region 1 with (first | ((with_reducible refine gate_dst (N := 2) rfl ?_); refine sqx 2 #[.int .i64 a0_0, .slice A0_1 l0_1.length c0_1] 41 ?_; intro gb319 hg w4 hbox hb; have BK319 := Aside0.mk (hbox); have GW319 := sqg HB hg; have GE319 := sqg HB hg; replace HB := sqs HB hb; clear hb hbox hg) | ((with_reducible refine gate_dst (N := 4) rfl ?_); refine sqx 4 #[.int .i64 0, .slice none 0 0] 41 ?_; intro gb320 hg w5 hbox hb; have BK320 := Aside0.mk (hbox); have GW320 := sqg HB hg; have GE320 := sqg HB hg; have NB319_320 := sqn BK319 hg; have NB320_319 := sqm BK319 hg; replace BK319 := sqb BK319 hb; replace HB := sqs HB hb; clear hb hbox hg))
  (try simp only [Act.put, List.setIfInBounds_toArray, List.set_cons_zero, List.set_cons_succ])
  go_cut [16] (fun v16 wc => ∃ (kq : Nat) (x16_2 : Bool), v16 = .bool x16_2 ∧ Aside0 (spec_GapsForget.j0 kq a1 x16_2 a0_0 l0_1 = some (r1, r2)) ∧ Aside0 (kq ≤ k) ∧ Aside0 (wc.heap[gb319]? = some (.cells #[.int .i64 a0_0, (.slice A0_1 l0_1.length c0_1)] 41 (0, 0))) ∧ Aside0 (wc.heap[gb320]? = some (.cells #[.int .i64 0, (.slice none 0 0)] 41 (0, 0))) ∧ Aside0 (Below w.heap.size w wc))
  case first =>
    have H := HC3.out
    clear HC3
    replace H := Option.bind_eq_some_iff.mp H
    obtain ⟨t321, A60, H⟩ := H
    replace H : (if t321 = true then ((spec_l1In.f a1 1 a0_0).bind fun t322 => (spec_GapsForget.j0 k a1 (!t322) a0_0 l0_1)) else (spec_GapsForget.j0 k a1 true a0_0 l0_1)) = some (r1, r2) := H
    have A6 := Aside0.mk A60
    clear A60
    by_cases c7 : t321 = true
    · subst c7
      have H1 : ((spec_l1In.f a1 1 a0_0).bind fun t322 => (spec_GapsForget.j0 k a1 (!t322) a0_0 l0_1)) = some (r1, r2) := by rw [if_pos rfl] at H; exact H
      clear H
      have H := H1
      clear H1
      replace H := Option.bind_eq_some_iff.mp H
      obtain ⟨t322, A80, H⟩ := H
      replace H : (spec_GapsForget.j0 k a1 (!t322) a0_0 l0_1) = some (r1, r2) := H
      have A8 := Aside0.mk A80
      clear A80
      have H' := Aside0.mk H
      clear H
      have hnb9 := NB319_320.out
      have hnc9 := NB320_319.out
      obtain ⟨hcz10_0, hcz10_1, hfz10_0, hfz10_1⟩ := sqc2 BK319
      go_wp2_with (first | ((with_reducible refine gate_callee (f := 41) rfl ?_); refine sqL (some 8) Try.func41 #[.agg #[.int .i64 a0_0, .slice A0_1 l0_1.length c0_1]] ?_; (with_reducible refine (spec_GapsOk.calls k a0_0 _ _ l0_1 true _ ?side1 ?side2 A6.out).mono ?_); (case side1 => repeat (first | exact (Kd.C_below HR0_1.out HB.out) | (with_reducible refine Kd.C_alloc ?_ _) | (with_reducible refine Kd.C_drewN ?_ _) | (with_reducible refine Kd.C_drew ?_))); (case side2 => exact HC0_1.out); rintro e w11 ⟨rfl, hb⟩; refine ⟨_, rfl, ?_⟩; replace BK319 := sqb BK319 hb; replace BK320 := sqb BK320 hb; replace HB := sqs HB hb; (try clear hb); obtain ⟨hcz12_0, hcz12_1, hfz12_0, hfz12_1⟩ := sqc2 BK319) | (go_at_call 105; (with_reducible refine (spec_l1In.calls a1 1 a0_0 t322 _ A8.out).mono ?_); rintro e w' ⟨rfl, ⟨nd, rfl⟩⟩))
      go_meet
      case rel => exact ⟨_, (!t322), (by first | rfl | (simp; done) | (simp [*]; done)), H', ⟨by first | omega | exact Nat.le_refl _⟩, sqk BK319, sqk BK320, sqh HB⟩
    · replace c7 := Bool.eq_false_iff.mpr c7
      subst c7
      have H1 : (spec_GapsForget.j0 k a1 true a0_0 l0_1) = some (r1, r2) := by rw [if_neg (show ¬ (false = true) by decide)] at H; exact H
      clear H
      have H := H1
      clear H1
      have H' := Aside0.mk H
      clear H
      have hnb13 := NB319_320.out
      have hnc13 := NB320_319.out
      obtain ⟨hcz14_0, hcz14_1, hfz14_0, hfz14_1⟩ := sqc2 BK319
      go_wp2_with (first | ((with_reducible refine gate_callee (f := 41) rfl ?_); refine sqL (some 8) Try.func41 #[.agg #[.int .i64 a0_0, .slice A0_1 l0_1.length c0_1]] ?_; (with_reducible refine (spec_GapsOk.calls k a0_0 _ _ l0_1 false _ ?side1 ?side2 A6.out).mono ?_); (case side1 => repeat (first | exact (Kd.C_below HR0_1.out HB.out) | (with_reducible refine Kd.C_alloc ?_ _) | (with_reducible refine Kd.C_drewN ?_ _) | (with_reducible refine Kd.C_drew ?_))); (case side2 => exact HC0_1.out); rintro e w15 ⟨rfl, hb⟩; refine ⟨_, rfl, ?_⟩; replace BK319 := sqb BK319 hb; replace BK320 := sqb BK320 hb; replace HB := sqs HB hb; (try clear hb)))
      go_meet
      case rel => exact ⟨_, (true), (by first | rfl | (simp; done) | (simp [*]; done)), H', ⟨by first | omega | exact Nat.le_refl _⟩, sqk BK319, sqk BK320, sqh HB⟩
  case rest =>
    clear HC3
    obtain ⟨kq, x16_2, rfl, HA, HJ2, BK319, BK320, HB⟩ := hcut
    cases kq with
    | zero => exact absurd HA.out (by simp [spec_GapsForget.j0])
    | succ kj2 =>
      have H := HA.out
      clear HA
      simp only [spec_GapsForget.j0] at H
      by_cases c16 : x16_2 = true
      · subst c16
        have H1 : (some (0, ([] : List Int))) = some (r1, r2) := by rw [if_pos rfl] at H; exact H
        clear H
        have H := H1
        clear H1
        simp only [Option.some.injEq, Prod.mk.injEq] at H
        obtain ⟨rfl, rfl⟩ := H
        have hnb17 := NB320_319.out
        have hnc17 := NB319_320.out
        obtain ⟨hcz18_0, hcz18_1, hfz18_0, hfz18_1⟩ := sqc2 BK320
        go_wp2
        refine bodyPost_ret (results_cell_row rfl _ _ gb320 41 #[.int .i64 0, .slice none 0 0] (0, 0) _ rfl (by refine sqt ?_; refine blk_put (cs := #[.int .i64 0, .slice none 0 0]) ?_ 1 _ rfl; refine sqt ?_; refine blk_put (cs := #[.int .i64 0, .slice none 0 0]) ?_ 0 _ rfl; refine sqt ?_; exact BK320.out) Try.underlying41 rfl (by kernel_rfl)) rfl ?_
        exact ⟨_, by first | rfl | (simp [errW_none, errW_some] <;> rfl) | (simp [*, errW_none, errW_some] <;> rfl), by first | exact Kd.R_nil _ _ _ _ _ | exact Kd.N_nil _ _ _ _ _ | exact Kd.V_nil _ _ _ _ _ | exact Kd.Q_nil _ _ _ _ _ | exact Kd.S_nil _ _ _ _ _, by repeat (first | (with_reducible first | exact HB.out | apply below_alloc | apply pw_below_drewN | apply below_drew1 | refine below_set ?_ GE319.out | refine below_set ?_ GE320.out) | exact HB.out)⟩
      · replace c16 := Bool.eq_false_iff.mpr c16
        subst c16
        have H1 : ((spec_l11Copy.f kj2 a0_0 l0_1).bind fun bt323 => (spec_GapsForget.l0 kj2 a1 0 a0_0 l0_1 bt323.1 bt323.2)) = some (r1, r2) := by rw [if_neg (show ¬ (false = true) by decide)] at H; exact H
        clear H
        have H := H1
        clear H1
        replace H := Option.bind_eq_some_iff.mp H
        obtain ⟨⟨t323, t324⟩, A190, H⟩ := H
        replace H : (spec_GapsForget.l0 kj2 a1 0 a0_0 l0_1 t323 t324) = some (r1, r2) := H
        have A19 := Aside0.mk A190
        clear A190
        have H' := Aside0.mk H
        clear H
        have hnb20 := NB319_320.out
        have hnc20 := NB320_319.out
        obtain ⟨hcz21_0, hcz21_1, hfz21_0, hfz21_1⟩ := sqc2 BK319
        go_wp2_with (first | ((with_reducible refine gate_callee (f := 113) rfl ?_); refine sqL (some 19) Try.func113 #[.agg #[.int .i64 a0_0, .slice A0_1 l0_1.length c0_1]] ?_; (with_reducible refine (spec_l11Copy.calls kj2 a0_0 _ _ l0_1 t323 t324 _ ?side1 ?side2 A19.out).mono ?_); (case side1 => repeat (first | exact (Kd.C_below HR0_1.out HB.out) | (with_reducible refine Kd.C_alloc ?_ _) | (with_reducible refine Kd.C_drewN ?_ _) | (with_reducible refine Kd.C_drew ?_))); (case side2 => exact HC0_1.out); rintro e w22 ⟨v325, rfl, ho0, hb⟩; refine ⟨_, rfl, ?_⟩; have HO326 := Aside0.mk (Kd.R_lower ho0 (below_size (by repeat (first | (with_reducible first | exact HB.out | apply below_alloc | apply pw_below_drewN | apply below_drew1 | refine below_set ?_ GE319.out | refine below_set ?_ GE320.out) | exact HB.out)))); replace BK319 := sqb BK319 hb; replace BK320 := sqb BK320 hb; replace HB := sqs HB hb; (try clear hb); (try clear hb2); (try clear hk); (try clear hi); (try clear ho0)) | ((with_reducible refine gate_dst (N := 5) rfl ?_); refine sqx 5 #[.int .i64 0, .slice none 0 0] 41 ?_; intro gb327 hg w23 hbox hb; have n0_ := Aside0.mk (Kd.R_below (by (with_reducible repeat (first | apply Kd.R_alloc | apply Kd.R_drewN | apply Kd.R_drew)); exact HO326.out) hb); have n1_ := sqb BK319 hb; have n2_ := sqb BK320 hb; have n3_ := sqs HB hb; have n4_ := Aside0.mk (hbox); have n5_ := sqg HB hg; have n6_ := sqg HB hg; have n7_ := sqn BK319 hg; have n8_ := sqm BK319 hg; have n9_ := sqn BK320 hg; have n10_ := sqm BK320 hg; clear HO326; clear BK319; clear BK320; clear HB; have HO326 := n0_; have BK319 := n1_; have BK320 := n2_; have HB := n3_; have BK327 := n4_; have GW327 := n5_; have GE327 := n6_; have NB319_327 := n7_; have NB327_319 := n8_; have NB320_327 := n9_; have NB327_320 := n10_; clear n0_ n1_ n2_ n3_ n4_ n5_ n6_ n7_ n8_ n9_ n10_; clear hb hbox hg; have hnb24 := NB327_319.out; have hnc24 := NB319_327.out; have hnb25 := NB327_320.out; have hnc25 := NB320_327.out; obtain ⟨hcz26_0, hcz26_1, hfz26_0, hfz26_1⟩ := sqc2 BK327; obtain ⟨Ao27, co27, eo27⟩ := Kd.R_slice HO326.out; subst eo27))
        go_loopg [6] kj2 (fun kq v6 w' => ∃ (x6_2 : Int) (x328001_2 : List Int) (u328001 : Value), v6 = .int .i64 x6_2 ∧ Aside0 (spec_GapsForget.l0 kq a1 x6_2 a0_0 l0_1 t323 x328001_2 = some (r1, r2)) ∧ Aside0 (kq ≤ kj2) ∧ Aside0 (Kd.R (Kd.int .i64) 3 w' w.heap.size (fun _ => True) u328001 x328001_2) ∧ Aside0 (w'.heap[gb319]? = some (.cells #[.int .i64 a0_0, (.slice A0_1 l0_1.length c0_1)] 41 (0, 0))) ∧ Aside0 (w'.heap[gb320]? = some (.cells #[.int .i64 0, (.slice none 0 0)] 41 (0, 0))) ∧ Aside0 (w'.heap[gb327]? = some (.cells #[.int .i64 t323, u328001] 41 (0, 0))) ∧ Aside0 (Below w.heap.size w w'))
        case atStart => exact ⟨(0), (t324), (.slice Ao27 t324.length co27), (by first | rfl | (simp; done) | (simp [*]; done)), H', ⟨Nat.le_refl _⟩, ⟨by (with_reducible repeat (first | apply Kd.R_alloc | apply Kd.R_drewN | apply Kd.R_drew)); exact Kd.R_mono (Kd.R_far (p := ⟨gb327, 1, none⟩) (Kd.R_far (p := ⟨gb327, 0, none⟩) (Kd.R_types HO326.out BK327.out (by decide)) (fun _ hk => hk.2) (.int .i64 t323)) (fun _ hk => hk.2) (.slice Ao27 t324.length co27)) (fun _ hk => trivial)⟩, ⟨by refine sqt ?_; refine blk_far ?_ NB319_327.out _; refine sqt ?_; refine blk_far ?_ NB319_327.out _; refine sqt ?_; exact BK319.out⟩, ⟨by refine sqt ?_; refine blk_far ?_ NB320_327.out _; refine sqt ?_; refine blk_far ?_ NB320_327.out _; refine sqt ?_; exact BK320.out⟩, ⟨by refine sqt ?_; refine blk_put (cs := #[.int .i64 t323, .slice none 0 0]) ?_ 1 _ rfl; refine sqt ?_; refine blk_put (cs := #[.int .i64 0, .slice none 0 0]) ?_ 0 _ rfl; refine sqt ?_; exact BK327.out⟩, sqh HB⟩
        case round =>
          clear H'
          try clear c1
          try clear c2
          try clear p2
          try clear c4
          try clear c5
          try clear c7
          try clear c9
          try clear c11
          try clear c13
          try clear c16
          try clear c17
          try clear c20
          try clear c24
          try clear c25
          try clear hcz10_0
          try clear hcz10_1
          try clear hcz12_0
          try clear hcz12_1
          try clear hcz14_0
          try clear hcz14_1
          try clear hcz18_0
          try clear hcz18_1
          try clear hcz21_0
          try clear hcz21_1
          try clear hcz26_0
          try clear hcz26_1
          try clear hfz10_0
          try clear hfz10_1
          try clear hfz12_0
          try clear hfz12_1
          try clear hfz14_0
          try clear hfz14_1
          try clear hfz18_0
          try clear hfz18_1
          try clear hfz21_0
          try clear hfz21_1
          try clear hfz26_0
          try clear hfz26_1
          try clear p2
          obtain ⟨x6_2, x328001_2, u328001, rfl, HA, HK2, HO_328001, BK319, BK320, BK327, HB⟩ := hrel
          cases gk with
          | zero => exact absurd HA.out (by simp [spec_GapsForget.l0])
          | succ k2 =>
            have H := HA.out
            clear HA
            simp only [spec_GapsForget.l0] at H
            by_cases c28 : x6_2 ≤ a0_0
            · rw [if_pos c28] at H
              have c28b0 : decide (x6_2 ≤ a0_0) = true := decide_eq_true c28
              clear c28
              by_cases c29 : x6_2 = a1
              · rw [if_pos c29] at H
                have c29b0 : (x6_2 == a1) = true := beq_iff_eq.mpr c29
                have c29b1 : (x6_2 != a1) = false := bne_eq_false_iff_eq.mpr c29
                clear c29
                have H' := Aside0.mk H
                clear H
                have hnb30 := NB319_320.out
                have hnc30 := NB320_319.out
                have hnb31 := NB319_327.out
                have hnc31 := NB327_319.out
                obtain ⟨hcz32_0, hcz32_1, hfz32_0, hfz32_1⟩ := sqc2 BK319
                go_wp2
                go_roundg k2
                case measure => have := HJ2.out; have := HK2.out; omega
                case rel => exact ⟨(wrap64 (x6_2 + 1)), (x328001_2), (u328001), (by first | rfl | (simp; done) | (simp [*]; done)), H', ⟨by have := HJ2.out; have := HK2.out; omega⟩, ⟨by (with_reducible repeat (first | apply Kd.R_alloc | apply Kd.R_drewN | apply Kd.R_drew)); exact HO_328001.out⟩, sqk BK319, sqk BK320, sqk BK327, sqh HB⟩
              · rw [if_neg c29] at H
                have c29b0 : (x6_2 == a1) = false := beq_eq_false_iff_ne.mpr c29
                have c29b1 : (x6_2 != a1) = true := bne_iff_ne.mpr c29
                replace H := Option.bind_eq_some_iff.mp H
                obtain ⟨t328, A330, H⟩ := H
                replace H : ((spec_l11Put.f t323 t328 a1 x6_2 1099511627776).bind fun t329 => (spec_GapsForget.l0 k2 a1 (wrap64 (x6_2 + 1)) a0_0 l0_1 t323 t329)) = some (r1, r2) := H
                have A33 := Aside0.mk A330
                clear A330
                replace H := Option.bind_eq_some_iff.mp H
                obtain ⟨t329, A340, H⟩ := H
                replace H : (spec_GapsForget.l0 k2 a1 (wrap64 (x6_2 + 1)) a0_0 l0_1 t323 t329) = some (r1, r2) := H
                have A34 := Aside0.mk A340
                clear A340
                have H' := Aside0.mk H
                clear H
                have hnb35 := NB319_320.out
                have hnc35 := NB320_319.out
                have hnb36 := NB319_327.out
                have hnc36 := NB327_319.out
                obtain ⟨hcz37_0, hcz37_1, hfz37_0, hfz37_1⟩ := sqc2 BK319
                have hnb38 := NB327_320.out
                have hnc38 := NB320_327.out
                obtain ⟨hcz39_0, hcz39_1, hfz39_0, hfz39_1⟩ := sqc2 BK327
                obtain ⟨Ao40, co40, eo40⟩ := Kd.R_slice HO_328001.out
                subst eo40
                go_wp2_with (first | ((with_reducible refine gate_callee (f := 116) rfl ?_); refine sqL (some 32) Try.func116 #[.agg #[.int .i64 t323, .slice Ao40 x328001_2.length co40], .int .i64 x6_2, .int .i64 a1, .int .i64 1099511627776] ?_; (with_reducible refine (spec_l11Put.calls t323 (fun k_ => some k_ = (.slice Ao40 x328001_2.length co40 : Value).ownBlock) (.slice Ao40 x328001_2.length co40) x328001_2 x6_2 a1 1099511627776 t328 w _ ?side1 ?side2 A33.out).mono ?_); (case side1 => repeat (first | (with_reducible first | exact HB.out | apply below_alloc | apply pw_below_drewN | apply below_drew1 | refine below_set ?_ GE319.out | refine below_set ?_ GE320.out | refine below_set ?_ GE327.out) | exact HB.out)); (case side2 => exact Kd.R_tight rfl HO_328001.out); rintro e w41 ⟨rfl, hy0, hb, hkp⟩; refine ⟨_, rfl, ?_⟩; have n0_ := Aside0.mk (Kd.R_reok rfl hy0 (fun k_ e_ => HO_328001.out.1 k_ e_)); have n1_ := Aside0.mk (blk_kept (by refine sqt ?_; exact BK319.out) hkp (fun hs_ => (fun e_ => (Kd.R_ne HO_328001.out BK319.out (by decide)) e_) hs_)); have n2_ := Aside0.mk (blk_kept (by refine sqt ?_; exact BK320.out) hkp (fun hs_ => (fun e_ => (Kd.R_ne HO_328001.out BK320.out (by decide)) e_) hs_)); have n3_ := Aside0.mk (blk_kept (by refine sqt ?_; exact BK327.out) hkp (fun hs_ => (fun e_ => (Kd.R_ne HO_328001.out BK327.out (by decide)) e_) hs_)); have n4_ := Aside0.mk (hb); clear HO_328001; clear BK319; clear BK320; clear BK327; clear HB; have HO_328001 := n0_; have BK319 := n1_; have BK320 := n2_; have BK327 := n3_; have HB := n4_; clear n0_ n1_ n2_ n3_ n4_; (try clear hb); (try clear hkp); (try clear hy0); obtain ⟨hcz42_0, hcz42_1, hfz42_0, hfz42_1⟩ := sqc2 BK327) | ((with_reducible refine gate_callee (f := 116) rfl ?_); refine sqL (some 36) Try.func116 #[.agg #[.int .i64 t323, .slice Ao40 x328001_2.length co40], .int .i64 a1, .int .i64 x6_2, .int .i64 1099511627776] ?_; (with_reducible refine (spec_l11Put.calls t323 (fun k_ => some k_ = (.slice Ao40 x328001_2.length co40 : Value).ownBlock) (.slice Ao40 x328001_2.length co40) t328 a1 x6_2 1099511627776 t329 w _ ?side1 ?side2 A34.out).mono ?_); (case side1 => repeat (first | (with_reducible first | exact HB.out | apply below_alloc | apply pw_below_drewN | apply below_drew1 | refine below_set ?_ GE319.out | refine below_set ?_ GE320.out | refine below_set ?_ GE327.out) | exact HB.out)); (case side2 => exact Kd.R_tight rfl HO_328001.out); rintro e w43 ⟨rfl, hy0, hb, hkp⟩; refine ⟨_, rfl, ?_⟩; have n0_ := Aside0.mk (Kd.R_reok rfl hy0 (fun k_ e_ => HO_328001.out.1 k_ e_)); have n1_ := Aside0.mk (blk_kept (by refine sqt ?_; exact BK319.out) hkp (fun hs_ => (fun e_ => (Kd.R_ne HO_328001.out BK319.out (by decide)) e_) hs_)); have n2_ := Aside0.mk (blk_kept (by refine sqt ?_; exact BK320.out) hkp (fun hs_ => (fun e_ => (Kd.R_ne HO_328001.out BK320.out (by decide)) e_) hs_)); have n3_ := Aside0.mk (blk_kept (by refine sqt ?_; exact BK327.out) hkp (fun hs_ => (fun e_ => (Kd.R_ne HO_328001.out BK327.out (by decide)) e_) hs_)); have n4_ := Aside0.mk (hb); clear HO_328001; clear BK319; clear BK320; clear BK327; clear HB; have HO_328001 := n0_; have BK319 := n1_; have BK320 := n2_; have BK327 := n3_; have HB := n4_; clear n0_ n1_ n2_ n3_ n4_; (try clear hb); (try clear hkp); (try clear hy0)))
                go_roundg k2
                case measure => have := HJ2.out; have := HK2.out; omega
                case rel => exact ⟨(wrap64 (x6_2 + 1)), (t329), (.slice Ao40 x328001_2.length co40), (by first | rfl | (simp; done) | (simp [*]; done)), H', ⟨by have := HJ2.out; have := HK2.out; omega⟩, ⟨by (with_reducible repeat (first | apply Kd.R_alloc | apply Kd.R_drewN | apply Kd.R_drew)); exact HO_328001.out⟩, sqk BK319, sqk BK320, sqk BK327, sqh HB⟩
            · rw [if_neg c28] at H
              have c28b0 : decide (x6_2 ≤ a0_0) = false := decide_eq_false c28
              clear c28
              simp only [Option.some.injEq, Prod.mk.injEq] at H
              obtain ⟨rfl, rfl⟩ := H
              have hnb44 := NB319_320.out
              have hnc44 := NB320_319.out
              have hnb45 := NB319_327.out
              have hnc45 := NB327_319.out
              obtain ⟨hcz46_0, hcz46_1, hfz46_0, hfz46_1⟩ := sqc2 BK319
              have hnb47 := NB327_320.out
              have hnc47 := NB320_327.out
              obtain ⟨hcz48_0, hcz48_1, hfz48_0, hfz48_1⟩ := sqc2 BK327
              obtain ⟨hcz49_0, hcz49_1, hfz49_0, hfz49_1⟩ := sqc2 BK320
              obtain ⟨Ao50, co50, eo50⟩ := Kd.R_slice HO_328001.out
              subst eo50
              go_wp2
              refine bodyPost_ret (results_cell_row rfl _ _ gb320 41 #[.int .i64 t323, .slice Ao50 x328001_2.length co50] (0, 0) _ rfl (by refine sqt ?_; refine blk_put (cs := #[.int .i64 t323, .slice none 0 0]) ?_ 1 _ rfl; refine sqt ?_; refine blk_put (cs := #[.int .i64 0, .slice none 0 0]) ?_ 0 _ rfl; refine sqt ?_; exact BK320.out) Try.underlying41 rfl (by kernel_rfl)) rfl ?_
              exact ⟨_, by first | rfl | (simp [errW_none, errW_some] <;> rfl) | (simp [*, errW_none, errW_some] <;> rfl), by (with_reducible repeat (first | apply Kd.R_alloc | apply Kd.R_drewN | apply Kd.R_drew)); exact Kd.R_mono (Kd.R_far (p := ⟨gb320, 1, none⟩) (Kd.R_far (p := ⟨gb320, 0, none⟩) (Kd.R_types HO_328001.out BK320.out (by decide)) (fun _ hk => hk.2) (.int .i64 t323)) (fun _ hk => hk.2) (.slice Ao50 x328001_2.length co50)) (fun _ hk => trivial), by repeat (first | (with_reducible first | exact HB.out | apply below_alloc | apply pw_below_drewN | apply below_drew1 | refine below_set ?_ GE319.out | refine below_set ?_ GE320.out | refine below_set ?_ GE327.out) | exact HB.out)⟩

/-! ### spec_l11C: function 121 -/
set_option maxHeartbeats 8000000 in
set_option maxRecDepth 100000 in
theorem spec_l11C.calls (a0 : Int) (r : Bool) (w : World) (h : spec_l11C.f a0 = some r) :
    Calls Try.prog 121 #[.int .i64 a0] w fun e w' => e = .returned (.bool r) ∧ Drawn0 w w' := by
  have H : ((spec_l1In.f a0 (-4294967296) 4294967296).bind fun t330 => (some t330)) = some r := h
  clear h
  replace H := Option.bind_eq_some_iff.mp H
  obtain ⟨t330, A20, H⟩ := H
  replace H : (some t330) = some r := H
  have A2 := Aside0.mk A20
  clear A20
  obtain rfl := Option.some.inj H
  go_enter Try.func121, Try.ntmps121
  go_wp2_with (first | ((with_reducible refine gate_callee (f := 105) rfl ?_); refine sqL (some 4) Try.func105 #[.int .i64 a0, .int .i64 (-4294967296), .int .i64 4294967296] ?_; (with_reducible refine (spec_l1In.calls a0 (-4294967296) 4294967296 t330 _ A2.out).mono ?_); rintro e w' ⟨rfl, ⟨nd, rfl⟩⟩; refine ⟨_, rfl, ?_⟩))
  go_ret
  exact ⟨by first | rfl | (simp; done) | (simp [*]; done), by repeat (first | exact Drawn0.refl _ | apply Drawn0.step)⟩

/-! ### spec_l8Max: function 122 -/
set_option maxHeartbeats 8000000 in
set_option maxRecDepth 100000 in
theorem spec_l8Max.calls (a0 : Int) (a1 : Int) (r : Int) (w : World) (h : spec_l8Max.f a0 a1 = some r) :
    Calls Try.prog 122 #[.int .i64 a0, .int .i64 a1] w fun e w' => e = .returned (.int .i64 r) ∧ Drawn0 w w' := by
  have H : (if a0 > a1 then (some a0) else (some a1)) = some r := h
  clear h
  by_cases c3 : a0 > a1
  · rw [if_pos c3] at H
    have c3b0 : decide (a1 < a0) = true := decide_eq_true c3
    clear c3
    obtain rfl := Option.some.inj H
    go_enter Try.func122, Try.ntmps122
    go_wp2
    go_ret
    exact ⟨by first | rfl | (simp; done) | (simp [*]; done), by repeat (first | exact Drawn0.refl _ | apply Drawn0.step)⟩
  · rw [if_neg c3] at H
    have c3b0 : decide (a1 < a0) = false := decide_eq_false c3
    clear c3
    obtain rfl := Option.some.inj H
    go_enter Try.func122, Try.ntmps122
    go_wp2
    go_ret
    exact ⟨by first | rfl | (simp; done) | (simp [*]; done), by repeat (first | exact Drawn0.refl _ | apply Drawn0.step)⟩

end Go.Proofs.Ytkekcenlleebeaa.PFnGapsBack
