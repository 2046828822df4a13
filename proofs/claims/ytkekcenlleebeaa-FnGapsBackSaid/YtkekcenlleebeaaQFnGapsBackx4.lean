/- Functions of the program as plain Lean functions, and that calls of them come to what these tell. Conditions: those in each law. -/
import Derived.Test.YtkekcenlleebeaaSq
import Derived.Test.YtkekcenlleebeaaDFnGapsBack
import Derived.Test.YtkekcenlleebeaaQFnGapsBackx0
import Derived.Test.YtkekcenlleebeaaQFnGapsBackx3
namespace Go.Proofs.Ytkekcenlleebeaa.PFnGapsBack
open Go.RowKit Go.Proofs.Ytkekcenlleebeaa.Sq Go.Proofs.YtkekcenlleebeaaW.PrintWords Go.Proofs.YtkekcenlleebeaaW.PrintLast Go.Proofs.YtkekcenlleebeaaW.PrintMore
attribute [local go_sem] max2_int min2_int max_two min_two max_three min_three max_four min_four   -- for this text's walks alone
set_option linter.unusedVariables false
set_option linter.unusedSimpArgs false

/-! ### spec_GapsClose: function 26 -/
theorem spec_GapsClose.mono_l : ∀ k, (∀ y0 y1 y2 y3 y4, LeO (spec_GapsClose.l0 k y0 y1 y2 y3 y4) (spec_GapsClose.l0 (k + 1) y0 y1 y2 y3 y4)) ∧ (∀ y0 y1 y2 y3 y4 y5, LeO (spec_GapsClose.l1 k y0 y1 y2 y3 y4 y5) (spec_GapsClose.l1 (k + 1) y0 y1 y2 y3 y4 y5)) ∧ (∀ y0 y1 y2 y3 y4 y5 y6, LeO (spec_GapsClose.l2 k y0 y1 y2 y3 y4 y5 y6) (spec_GapsClose.l2 (k + 1) y0 y1 y2 y3 y4 y5 y6)) ∧ (∀ y0 y1 y2 y3 y4, LeO (spec_GapsClose.l3 k y0 y1 y2 y3 y4) (spec_GapsClose.l3 (k + 1) y0 y1 y2 y3 y4))
  | 0 => ⟨fun _ _ _ _ _ r h => by simp [spec_GapsClose.l0] at h, fun _ _ _ _ _ _ r h => by simp [spec_GapsClose.l1] at h, fun _ _ _ _ _ _ _ r h => by simp [spec_GapsClose.l2] at h, fun _ _ _ _ _ r h => by simp [spec_GapsClose.l3] at h⟩
  | k + 1 => by
    obtain ⟨ih0, ih1, ih2, ih3⟩ := spec_GapsClose.mono_l k
    refine ⟨?_, ?_, ?_, ?_⟩
    · intro y0 y1 y2 y3 y4
      unfold spec_GapsClose.l0
      repeat' first
      | (with_reducible exact ih0 _ _ _ _ _)
      | (with_reducible exact ih1 _ _ _ _ _ _)
      | (with_reducible exact ih2 _ _ _ _ _ _ _)
      | (with_reducible exact ih3 _ _ _ _ _)
      | (with_reducible exact spec_GapsOk.mono _ _ _)
      | (with_reducible exact spec_l11Copy.mono _ _ _)
      | (with_reducible exact LeO.refl _)
      | (with_reducible exact LeO.none _)
      | (with_reducible refine LeO.ite ?_ ?_)
      | (with_reducible refine LeO.bind ?_ (fun _ => ?_))
      | exact ih0 _ _ _ _ _
      | exact ih1 _ _ _ _ _ _
      | exact ih2 _ _ _ _ _ _ _
      | exact ih3 _ _ _ _ _
      | exact spec_GapsOk.mono _ _ _
      | exact spec_l11Copy.mono _ _ _
      | exact LeO.none _
      | refine LeO.ite ?_ ?_
      | refine LeO.bind ?_ (fun _ => ?_)
    · intro y0 y1 y2 y3 y4 y5
      unfold spec_GapsClose.l1
      repeat' first
      | (with_reducible exact ih0 _ _ _ _ _)
      | (with_reducible exact ih1 _ _ _ _ _ _)
      | (with_reducible exact ih2 _ _ _ _ _ _ _)
      | (with_reducible exact ih3 _ _ _ _ _)
      | (with_reducible exact spec_GapsOk.mono _ _ _)
      | (with_reducible exact spec_l11Copy.mono _ _ _)
      | (with_reducible exact LeO.refl _)
      | (with_reducible exact LeO.none _)
      | (with_reducible refine LeO.ite ?_ ?_)
      | (with_reducible refine LeO.bind ?_ (fun _ => ?_))
      | exact ih0 _ _ _ _ _
      | exact ih1 _ _ _ _ _ _
      | exact ih2 _ _ _ _ _ _ _
      | exact ih3 _ _ _ _ _
      | exact spec_GapsOk.mono _ _ _
      | exact spec_l11Copy.mono _ _ _
      | exact LeO.none _
      | refine LeO.ite ?_ ?_
      | refine LeO.bind ?_ (fun _ => ?_)
    · intro y0 y1 y2 y3 y4 y5 y6
      unfold spec_GapsClose.l2
      repeat' first
      | (with_reducible exact ih0 _ _ _ _ _)
      | (with_reducible exact ih1 _ _ _ _ _ _)
      | (with_reducible exact ih2 _ _ _ _ _ _ _)
      | (with_reducible exact ih3 _ _ _ _ _)
      | (with_reducible exact spec_GapsOk.mono _ _ _)
      | (with_reducible exact spec_l11Copy.mono _ _ _)
      | (with_reducible exact LeO.refl _)
      | (with_reducible exact LeO.none _)
      | (with_reducible refine LeO.ite ?_ ?_)
      | (with_reducible refine LeO.bind ?_ (fun _ => ?_))
      | exact ih0 _ _ _ _ _
      | exact ih1 _ _ _ _ _ _
      | exact ih2 _ _ _ _ _ _ _
      | exact ih3 _ _ _ _ _
      | exact spec_GapsOk.mono _ _ _
      | exact spec_l11Copy.mono _ _ _
      | exact LeO.none _
      | refine LeO.ite ?_ ?_
      | refine LeO.bind ?_ (fun _ => ?_)
    · intro y0 y1 y2 y3 y4
      unfold spec_GapsClose.l3
      repeat' first
      | (with_reducible exact ih0 _ _ _ _ _)
      | (with_reducible exact ih1 _ _ _ _ _ _)
      | (with_reducible exact ih2 _ _ _ _ _ _ _)
      | (with_reducible exact ih3 _ _ _ _ _)
      | (with_reducible exact spec_GapsOk.mono _ _ _)
      | (with_reducible exact spec_l11Copy.mono _ _ _)
      | (with_reducible exact LeO.refl _)
      | (with_reducible exact LeO.none _)
      | (with_reducible refine LeO.ite ?_ ?_)
      | (with_reducible refine LeO.bind ?_ (fun _ => ?_))
      | exact ih0 _ _ _ _ _
      | exact ih1 _ _ _ _ _ _
      | exact ih2 _ _ _ _ _ _ _
      | exact ih3 _ _ _ _ _
      | exact spec_GapsOk.mono _ _ _
      | exact spec_l11Copy.mono _ _ _
      | exact LeO.none _
      | refine LeO.ite ?_ ?_
      | refine LeO.bind ?_ (fun _ => ?_)
theorem spec_GapsClose.mono : ∀ a0 a1 k, LeO (spec_GapsClose.f k a0 a1) (spec_GapsClose.f (k + 1) a0 a1) := by
  intro a0 a1 k
  obtain ⟨ih0, ih1, ih2, ih3⟩ := spec_GapsClose.mono_l k
  unfold spec_GapsClose.f
  repeat' first
      | (with_reducible exact ih0 _ _ _ _ _)
      | (with_reducible exact ih1 _ _ _ _ _ _)
      | (with_reducible exact ih2 _ _ _ _ _ _ _)
      | (with_reducible exact ih3 _ _ _ _ _)
      | (with_reducible exact spec_GapsOk.mono _ _ _)
      | (with_reducible exact spec_l11Copy.mono _ _ _)
      | (with_reducible exact LeO.refl _)
      | (with_reducible exact LeO.none _)
      | (with_reducible refine LeO.ite ?_ ?_)
      | (with_reducible refine LeO.bind ?_ (fun _ => ?_))
      | exact ih0 _ _ _ _ _
      | exact ih1 _ _ _ _ _ _
      | exact ih2 _ _ _ _ _ _ _
      | exact ih3 _ _ _ _ _
      | exact spec_GapsOk.mono _ _ _
      | exact spec_l11Copy.mono _ _ _
      | exact LeO.none _
      | refine LeO.ite ?_ ?_
      | refine LeO.bind ?_ (fun _ => ?_)
def spec_GapsClose.T13 : Bool × List (List Nat × List Nat) := (true, [([], []), ([], []), ([], []), ([0, 1, 2], [0, 1, 2]), ([], []), ([], []), ([], []), ([4, 5, 6, 3], [4, 5, 6]), ([3, 7, 7], [3, 7]), ([8, 8, 0, 1, 2, 3, 4, 5, 6, 7, 8], [8])])
def spec_GapsClose.B13 : List Nat := [0, 0, 0, 7, 0, 0, 0, 127, 255, 511]
theorem spec_GapsClose.tab13 : rtab .any (opsOf Try.f26 13) = spec_GapsClose.T13 := by kernel_rfl
theorem spec_GapsClose.bits13 : waitsOk spec_GapsClose.T13.2 spec_GapsClose.B13 = true := by kernel_rfl
set_option maxHeartbeats 8000000 in
set_option maxRecDepth 100000 in
theorem spec_GapsClose.calls (k : Nat) (a0_0 : Int) (A0_1 : Option Addr) (c0_1 : Nat) (l0_1 : List Int) (r1 : Int) (r2 : List Int) (r3 : Bool) (w : World) (hr0_1 : Kd.C (Kd.int .i64) w A0_1 l0_1.length l0_1) (hc0_1 : l0_1.length ≤ c0_1) (h : spec_GapsClose.f k a0_0 l0_1 = some (r1, r2, r3)) :
    Calls Try.prog 26 #[.agg #[.int .i64 a0_0, .slice A0_1 l0_1.length c0_1]] w fun e w' => ∃ v1_ : Value, e = .returned (.tuple #[.agg #[.int .i64 r1, v1_], .bool r3]) ∧ Kd.R (Kd.int .i64) 3 w' w.heap.size (fun _ => True) v1_ r2 ∧ Below w.heap.size w w' := by
  have hu41 := Try.underlying41
  have HR0_1 := Aside0.mk hr0_1
  have HC0_1 := Aside0.mk hc0_1
  clear hr0_1 hc0_1
  have HB := Aside0.mk (Below.refl w.heap.size w)
  have H : ((spec_GapsOk.f k a0_0 l0_1).bind fun t143 => (if t143 = true then ((spec_l11Copy.f k a0_0 l0_1).bind fun bt144 => (spec_GapsClose.l0 k 0 a0_0 l0_1 bt144.1 bt144.2)) else (some (0, ([] : List Int), false)))) = some (r1, r2, r3) := h
  clear h
  replace H := Option.bind_eq_some_iff.mp H
  obtain ⟨t143, A20, H⟩ := H
  replace H : (if t143 = true then ((spec_l11Copy.f k a0_0 l0_1).bind fun bt144 => (spec_GapsClose.l0 k 0 a0_0 l0_1 bt144.1 bt144.2)) else (some (0, ([] : List Int), false))) = some (r1, r2, r3) := H
  have A2 := Aside0.mk A20
  clear A20
  by_cases c3 : t143 = true
  · subst c3
    have H1 : ((spec_l11Copy.f k a0_0 l0_1).bind fun bt144 => (spec_GapsClose.l0 k 0 a0_0 l0_1 bt144.1 bt144.2)) = some (r1, r2, r3) := by rw [if_pos rfl] at H; exact H
    clear H
    have H := H1
    clear H1
    replace H := Option.bind_eq_some_iff.mp H
    obtain ⟨⟨t144, t145⟩, A40, H⟩ := H
    replace H : (spec_GapsClose.l0 k 0 a0_0 l0_1 t144 t145) = some (r1, r2, r3) := H
    have A4 := Aside0.mk A40
    clear A40
    have H' := Aside0.mk H
    clear H
    go_enter Try.func26, Try.ntmps26
    go_wp2_with (first | ((with_reducible refine gate_dst (N := 1) rfl ?_); refine sqx 1 #[.int .i64 a0_0, .slice A0_1 l0_1.length c0_1] 41 ?_; intro gb141 hg w5 hbox hb; have BK141 := Aside0.mk (hbox); have GW141 := sqg HB hg; have GE141 := sqg HB hg; replace HB := sqs HB hb; clear hb hbox hg) | ((with_reducible refine gate_dst (N := 2) rfl ?_); refine sqx 2 #[.int .i64 0, .slice none 0 0] 41 ?_; intro gb142 hg w6 hbox hb; have BK142 := Aside0.mk (hbox); have GW142 := sqg HB hg; have GE142 := sqg HB hg; have NB141_142 := sqn BK141 hg; have NB142_141 := sqm BK141 hg; replace BK141 := sqb BK141 hb; replace HB := sqs HB hb; clear hb hbox hg; have hnb7 := NB141_142.out; have hnc7 := NB142_141.out; obtain ⟨hcz8_0, hcz8_1, hfz8_0, hfz8_1⟩ := sqc2 BK141) | ((with_reducible refine gate_callee (f := 41) rfl ?_); refine sqL (some 11) Try.func41 #[.agg #[.int .i64 a0_0, .slice A0_1 l0_1.length c0_1]] ?_; (with_reducible refine (spec_GapsOk.calls k a0_0 _ _ l0_1 true _ ?side1 ?side2 A2.out).mono ?_); (case side1 => repeat (first | exact (Kd.C_below HR0_1.out HB.out) | (with_reducible refine Kd.C_alloc ?_ _) | (with_reducible refine Kd.C_drewN ?_ _) | (with_reducible refine Kd.C_drew ?_))); (case side2 => exact HC0_1.out); rintro e w9 ⟨rfl, hb⟩; refine ⟨_, rfl, ?_⟩; replace BK141 := sqb BK141 hb; replace BK142 := sqb BK142 hb; replace HB := sqs HB hb; (try clear hb); obtain ⟨hcz10_0, hcz10_1, hfz10_0, hfz10_1⟩ := sqc2 BK141) | ((with_reducible refine gate_callee (f := 113) rfl ?_); refine sqL (some 15) Try.func113 #[.agg #[.int .i64 a0_0, .slice A0_1 l0_1.length c0_1]] ?_; (with_reducible refine (spec_l11Copy.calls k a0_0 _ _ l0_1 t144 t145 _ ?side1 ?side2 A4.out).mono ?_); (case side1 => repeat (first | exact (Kd.C_below HR0_1.out HB.out) | (with_reducible refine Kd.C_alloc ?_ _) | (with_reducible refine Kd.C_drewN ?_ _) | (with_reducible refine Kd.C_drew ?_))); (case side2 => exact HC0_1.out); rintro e w11 ⟨v146, rfl, ho0, hb⟩; refine ⟨_, rfl, ?_⟩; have HO147 := Aside0.mk (Kd.R_lower ho0 (below_size (by repeat (first | (with_reducible first | exact HB.out | apply below_alloc | apply pw_below_drewN | apply below_drew1 | refine below_set ?_ GE141.out | refine below_set ?_ GE142.out) | exact HB.out)))); replace BK141 := sqb BK141 hb; replace BK142 := sqb BK142 hb; replace HB := sqs HB hb; (try clear hb); (try clear hb2); (try clear hk); (try clear hi); (try clear ho0)) | ((with_reducible refine gate_dst (N := 4) rfl ?_); refine sqx 4 #[.int .i64 0, .slice none 0 0] 41 ?_; intro gb148 hg w12 hbox hb; have n0_ := Aside0.mk (Kd.R_below (by (with_reducible repeat (first | apply Kd.R_alloc | apply Kd.R_drewN | apply Kd.R_drew)); exact HO147.out) hb); have n1_ := sqb BK141 hb; have n2_ := sqb BK142 hb; have n3_ := sqs HB hb; have n4_ := Aside0.mk (hbox); have n5_ := sqg HB hg; have n6_ := sqg HB hg; have n7_ := sqn BK141 hg; have n8_ := sqm BK141 hg; have n9_ := sqn BK142 hg; have n10_ := sqm BK142 hg; clear HO147; clear BK141; clear BK142; clear HB; have HO147 := n0_; have BK141 := n1_; have BK142 := n2_; have HB := n3_; have BK148 := n4_; have GW148 := n5_; have GE148 := n6_; have NB141_148 := n7_; have NB148_141 := n8_; have NB142_148 := n9_; have NB148_142 := n10_; clear n0_ n1_ n2_ n3_ n4_ n5_ n6_ n7_ n8_ n9_ n10_; clear hb hbox hg; have hnb13 := NB148_141.out; have hnc13 := NB141_148.out; have hnb14 := NB148_142.out; have hnc14 := NB142_148.out; obtain ⟨hcz15_0, hcz15_1, hfz15_0, hfz15_1⟩ := sqc2 BK148; obtain ⟨Ao16, co16, eo16⟩ := Kd.R_slice HO147.out; subst eo16))
    go_loopg [5] k (fun kq v5 w' => ∃ (x5_1 : Int) (x149001_1 : List Int) (u149001 : Value), v5 = .int .i64 x5_1 ∧ Aside0 (spec_GapsClose.l0 kq x5_1 a0_0 l0_1 t144 x149001_1 = some (r1, r2, r3)) ∧ Aside0 (kq ≤ k) ∧ Aside0 (Kd.R (Kd.int .i64) 3 w' w.heap.size (fun _ => True) u149001 x149001_1) ∧ Aside0 (w'.heap[gb141]? = some (.cells #[.int .i64 a0_0, (.slice A0_1 l0_1.length c0_1)] 41 (0, 0))) ∧ Aside0 (w'.heap[gb142]? = some (.cells #[.int .i64 0, (.slice none 0 0)] 41 (0, 0))) ∧ Aside0 (w'.heap[gb148]? = some (.cells #[.int .i64 t144, u149001] 41 (0, 0))) ∧ Aside0 (Below w.heap.size w w'))
    case atStart => exact ⟨(0), (t145), (.slice Ao16 t145.length co16), (by first | rfl | (simp; done) | (simp [*]; done)), H', ⟨Nat.le_refl _⟩, ⟨by (with_reducible repeat (first | apply Kd.R_alloc | apply Kd.R_drewN | apply Kd.R_drew)); exact Kd.R_mono (Kd.R_far (p := ⟨gb148, 1, none⟩) (Kd.R_far (p := ⟨gb148, 0, none⟩) (Kd.R_types HO147.out BK148.out (by decide)) (fun _ hk => hk.2) (.int .i64 t144)) (fun _ hk => hk.2) (.slice Ao16 t145.length co16)) (fun _ hk => trivial)⟩, ⟨by refine sqt ?_; refine blk_far ?_ NB141_148.out _; refine sqt ?_; refine blk_far ?_ NB141_148.out _; refine sqt ?_; exact BK141.out⟩, ⟨by refine sqt ?_; refine blk_far ?_ NB142_148.out _; refine sqt ?_; refine blk_far ?_ NB142_148.out _; refine sqt ?_; exact BK142.out⟩, ⟨by refine sqt ?_; refine blk_put (cs := #[.int .i64 t144, .slice none 0 0]) ?_ 1 _ rfl; refine sqt ?_; refine blk_put (cs := #[.int .i64 0, .slice none 0 0]) ?_ 0 _ rfl; refine sqt ?_; exact BK148.out⟩, sqh HB⟩
    case round =>
      clear H'
      try clear c1
      try clear c2
      try clear p2
      try clear c3
      try clear c4
      try clear c7
      try clear c11
      try clear c13
      try clear c14
      try clear hcz10_0
      try clear hcz10_1
      try clear hcz15_0
      try clear hcz15_1
      try clear hcz8_0
      try clear hcz8_1
      try clear hfz10_0
      try clear hfz10_1
      try clear hfz15_0
      try clear hfz15_1
      try clear hfz8_0
      try clear hfz8_1
      obtain ⟨x5_1, x149001_1, u149001, rfl, HA, HK1, HO_149001, BK141, BK142, BK148, HB⟩ := hrel
      cases gk with
      | zero => exact absurd HA.out (by simp [spec_GapsClose.l0])
      | succ k1 =>
        have H := HA.out
        clear HA
        simp only [spec_GapsClose.l0] at H
        by_cases c17 : x5_1 ≤ a0_0
        · rw [if_pos c17] at H
          have c17b0 : decide (x5_1 ≤ a0_0) = true := decide_eq_true c17
          clear c17
          have H' := Aside0.mk H
          clear H
          have hnb18 := NB141_142.out
          have hnc18 := NB142_141.out
          have hnb19 := NB141_148.out
          have hnc19 := NB148_141.out
          obtain ⟨hcz20_0, hcz20_1, hfz20_0, hfz20_1⟩ := sqc2 BK141
          go_wp2
          go_loopg [6] k1 (fun kq v6 w' => ∃ (x6_2 : Int) (x149001_2 : List Int) (u149001 : Value), v6 = .int .i64 x6_2 ∧ Aside0 (spec_GapsClose.l1 kq x5_1 x6_2 a0_0 l0_1 t144 x149001_2 = some (r1, r2, r3)) ∧ Aside0 (kq ≤ k1) ∧ Aside0 (Kd.R (Kd.int .i64) 3 w' w.heap.size (fun _ => True) u149001 x149001_2) ∧ Aside0 (w'.heap[gb141]? = some (.cells #[.int .i64 a0_0, (.slice A0_1 l0_1.length c0_1)] 41 (0, 0))) ∧ Aside0 (w'.heap[gb142]? = some (.cells #[.int .i64 0, (.slice none 0 0)] 41 (0, 0))) ∧ Aside0 (w'.heap[gb148]? = some (.cells #[.int .i64 t144, u149001] 41 (0, 0))) ∧ Aside0 (Below w.heap.size w w'))
          case atStart => exact ⟨(0), (x149001_1), (u149001), (by first | rfl | (simp; done) | (simp [*]; done)), H', ⟨Nat.le_refl _⟩, ⟨by (with_reducible repeat (first | apply Kd.R_alloc | apply Kd.R_drewN | apply Kd.R_drew)); exact HO_149001.out⟩, sqk BK141, sqk BK142, sqk BK148, sqh HB⟩
          case round =>
            clear H'
            try clear c1
            try clear c2
            try clear p2
            try clear c3
            try clear c4
            try clear c7
            try clear c11
            try clear c13
            try clear c14
            try clear c17
            try clear c17b0
            try clear c18
            try clear c19
            try clear hcz10_0
            try clear hcz10_1
            try clear hcz15_0
            try clear hcz15_1
            try clear hcz20_0
            try clear hcz20_1
            try clear hcz8_0
            try clear hcz8_1
            try clear hfz10_0
            try clear hfz10_1
            try clear hfz15_0
            try clear hfz15_1
            try clear hfz20_0
            try clear hfz20_1
            try clear hfz8_0
            try clear hfz8_1
            try clear p2
            obtain ⟨x6_2, x149001_2, u149001, rfl, HA, HK2, HO_149001, BK141, BK142, BK148, HB⟩ := hrel
            cases gk with
            | zero => exact absurd HA.out (by simp [spec_GapsClose.l1])
            | succ k2 =>
              have H := HA.out
              clear HA
              simp only [spec_GapsClose.l1] at H
              by_cases c21 : x6_2 ≤ a0_0
              · rw [if_pos c21] at H
                have c21b0 : decide (x6_2 ≤ a0_0) = true := decide_eq_true c21
                clear c21
                have H' := Aside0.mk H
                clear H
                have hnb22 := NB141_142.out
                have hnc22 := NB142_141.out
                have hnb23 := NB141_148.out
                have hnc23 := NB148_141.out
                obtain ⟨hcz24_0, hcz24_1, hfz24_0, hfz24_1⟩ := sqc2 BK141
                go_wp2
                go_loopg [7] k2 (fun kq v7 w' => ∃ (x7_3 : Int) (x149001_3 : List Int) (u149001 : Value), v7 = .int .i64 x7_3 ∧ Aside0 (spec_GapsClose.l2 kq x5_1 x6_2 x7_3 a0_0 l0_1 t144 x149001_3 = some (r1, r2, r3)) ∧ Aside0 (kq ≤ k2) ∧ Aside0 (Kd.R (Kd.int .i64) 3 w' w.heap.size (fun _ => True) u149001 x149001_3) ∧ Aside0 (w'.heap[gb141]? = some (.cells #[.int .i64 a0_0, (.slice A0_1 l0_1.length c0_1)] 41 (0, 0))) ∧ Aside0 (w'.heap[gb142]? = some (.cells #[.int .i64 0, (.slice none 0 0)] 41 (0, 0))) ∧ Aside0 (w'.heap[gb148]? = some (.cells #[.int .i64 t144, u149001] 41 (0, 0))) ∧ Aside0 (Below w.heap.size w w'))
                case atStart => exact ⟨(0), (x149001_2), (u149001), (by first | rfl | (simp; done) | (simp [*]; done)), H', ⟨Nat.le_refl _⟩, ⟨by (with_reducible repeat (first | apply Kd.R_alloc | apply Kd.R_drewN | apply Kd.R_drew)); exact HO_149001.out⟩, sqk BK141, sqk BK142, sqk BK148, sqh HB⟩
                case round =>
                  clear H'
                  try clear c1
                  try clear c2
                  try clear p2
                  try clear c3
                  try clear c4
                  try clear c7
                  try clear c11
                  try clear c13
                  try clear c14
                  try clear c17
                  try clear c17b0
                  try clear c18
                  try clear c19
                  try clear c21
                  try clear c21b0
                  try clear c22
                  try clear c23
                  try clear hcz10_0
                  try clear hcz10_1
                  try clear hcz15_0
                  try clear hcz15_1
                  try clear hcz20_0
                  try clear hcz20_1
                  try clear hcz24_0
                  try clear hcz24_1
                  try clear hcz8_0
                  try clear hcz8_1
                  try clear hfz10_0
                  try clear hfz10_1
                  try clear hfz15_0
                  try clear hfz15_1
                  try clear hfz20_0
                  try clear hfz20_1
                  try clear hfz24_0
                  try clear hfz24_1
                  try clear hfz8_0
                  try clear hfz8_1
                  try clear p2
                  obtain ⟨x7_3, x149001_3, u149001, rfl, HA, HK3, HO_149001, BK141, BK142, BK148, HB⟩ := hrel
                  cases gk with
                  | zero => exact absurd HA.out (by simp [spec_GapsClose.l2])
                  | succ k3 =>
                    have H := HA.out
                    clear HA
                    simp only [spec_GapsClose.l2] at H
                    by_cases c25 : x7_3 ≤ a0_0
                    · rw [if_pos c25] at H
                      have c25b0 : decide (x7_3 ≤ a0_0) = true := decide_eq_true c25
                      clear c25
                      replace H := Option.bind_eq_some_iff.mp H
                      obtain ⟨t149, A260, H⟩ := H
                      replace H : ((spec_l11At.f t144 x149001_3 x5_1 x7_3).bind fun t150 => ((spec_l11Add.f t149 t150).bind fun t151 => ((spec_l11At.f t144 x149001_3 x6_2 x7_3).bind fun t152 => (if t151 < t152 then ((spec_l11Put.f t144 x149001_3 x6_2 x7_3 t151).bind fun t153 => (spec_GapsClose.l2 k3 x5_1 x6_2 (wrap64 (x7_3 + 1)) a0_0 l0_1 t144 t153)) else (spec_GapsClose.l2 k3 x5_1 x6_2 (wrap64 (x7_3 + 1)) a0_0 l0_1 t144 x149001_3))))) = some (r1, r2, r3) := H
                      have A26 := Aside0.mk A260
                      clear A260
                      replace H := Option.bind_eq_some_iff.mp H
                      obtain ⟨t150, A270, H⟩ := H
                      replace H : ((spec_l11Add.f t149 t150).bind fun t151 => ((spec_l11At.f t144 x149001_3 x6_2 x7_3).bind fun t152 => (if t151 < t152 then ((spec_l11Put.f t144 x149001_3 x6_2 x7_3 t151).bind fun t153 => (spec_GapsClose.l2 k3 x5_1 x6_2 (wrap64 (x7_3 + 1)) a0_0 l0_1 t144 t153)) else (spec_GapsClose.l2 k3 x5_1 x6_2 (wrap64 (x7_3 + 1)) a0_0 l0_1 t144 x149001_3)))) = some (r1, r2, r3) := H
                      have A27 := Aside0.mk A270
                      clear A270
                      replace H := Option.bind_eq_some_iff.mp H
                      obtain ⟨t151, A280, H⟩ := H
                      replace H : ((spec_l11At.f t144 x149001_3 x6_2 x7_3).bind fun t152 => (if t151 < t152 then ((spec_l11Put.f t144 x149001_3 x6_2 x7_3 t151).bind fun t153 => (spec_GapsClose.l2 k3 x5_1 x6_2 (wrap64 (x7_3 + 1)) a0_0 l0_1 t144 t153)) else (spec_GapsClose.l2 k3 x5_1 x6_2 (wrap64 (x7_3 + 1)) a0_0 l0_1 t144 x149001_3))) = some (r1, r2, r3) := H
                      have A28 := Aside0.mk A280
                      clear A280
                      replace H := Option.bind_eq_some_iff.mp H
                      obtain ⟨t152, A290, H⟩ := H
                      replace H : (if t151 < t152 then ((spec_l11Put.f t144 x149001_3 x6_2 x7_3 t151).bind fun t153 => (spec_GapsClose.l2 k3 x5_1 x6_2 (wrap64 (x7_3 + 1)) a0_0 l0_1 t144 t153)) else (spec_GapsClose.l2 k3 x5_1 x6_2 (wrap64 (x7_3 + 1)) a0_0 l0_1 t144 x149001_3)) = some (r1, r2, r3) := H
                      have A29 := Aside0.mk A290
                      clear A290
                      by_cases c30 : t151 < t152
                      · rw [if_pos c30] at H
                        have c30b0 : decide (t151 < t152) = true := decide_eq_true c30
                        clear c30
                        replace H := Option.bind_eq_some_iff.mp H
                        obtain ⟨t153, A310, H⟩ := H
                        replace H : (spec_GapsClose.l2 k3 x5_1 x6_2 (wrap64 (x7_3 + 1)) a0_0 l0_1 t144 t153) = some (r1, r2, r3) := H
                        have A31 := Aside0.mk A310
                        clear A310
                        have H' := Aside0.mk H
                        clear H
                        have hnb32 := NB141_142.out
                        have hnc32 := NB142_141.out
                        have hnb33 := NB141_148.out
                        have hnc33 := NB148_141.out
                        obtain ⟨hcz34_0, hcz34_1, hfz34_0, hfz34_1⟩ := sqc2 BK141
                        try go_wp2
                        replace HO_149001 := Aside0.mk (Kd.R_drew HO_149001.out)
                        replace BK141 := Aside0.mk (blk_drew BK141.out)
                        replace BK142 := Aside0.mk (blk_drew BK142.out)
                        replace BK148 := Aside0.mk (blk_drew BK148.out)
                        replace HB := Aside0.mk (below_drew1 HB.out)
                        obtain ⟨Ao36, co36, eo36⟩ := Kd.R_slice HO_149001.out
                        (first | subst eo36 | (injection eo36 with f1_ f2_ f3_; have f4_ := f1_.symm; have f5_ := f3_.symm; clear f1_ f2_ f3_; subst f4_; subst f5_))
                        refine start_ (n := 10) (S := fun w' => w'.cell? ⟨gb148, 0, none⟩ = some (.int .i64 t144) ∧ w'.cell? ⟨gb148, 1, none⟩ = some (.slice Ao36 x149001_3.length co36)) (ds := []) #[false, false, false, false, false, false, false, false, false, false] (by kernel_rfl) rfl rfl ⟨(blk_cell BK148.out 0).trans rfl, (blk_cell BK148.out 1).trans rfl⟩ (fun hHeld => ?_); refine with_tabW spec_GapsClose.tab13 spec_GapsClose.bits13 (fun HT_ HW_ => ?_)
                        generalize wr.drew = w35 at HO_149001 BK141 BK142 BK148 HB hHeld ⊢
                        refine sqp HT_ 1 35 ?_
                        refine sqp HT_ 2 36 ?_
                        refine sqp HT_ 5 39 ?_
                        refine sqp HT_ 6 40 ?_
                        refine sqw HT_ HW_ 0 34 hHeld ?_
                        refine sqw HT_ HW_ 4 38 hHeld ?_
                        refine sqo HT_ 3 37 (fun K hK => ?_)
                        refine sqG Try.func115 #[.agg #[.int .i64 t144, .slice Ao36 x149001_3.length co36], .int .i64 x6_2, .int .i64 x5_1] ?_
                        with_reducible refine (spec_l11At.calls t144 _ _ x149001_3 x6_2 x5_1 t149 _ ?side1 ?side2 A26.out).mono ?_
                        (case side1 => repeat (first | exact (Kd.R_reads' HO_149001.out).2.2 | (with_reducible refine Kd.C_alloc ?_ _) | (with_reducible refine Kd.C_drewN ?_ _) | (with_reducible refine Kd.C_drew ?_)))
                        (case side2 => exact (Kd.R_reads' HO_149001.out).2.1)
                        rintro e w37 ⟨rfl, hb⟩
                        refine ⟨_, rfl, ?_⟩
                        have n0_ := Aside0.mk (Kd.R_below (by (with_reducible repeat (first | apply Kd.R_alloc | apply Kd.R_drewN | apply Kd.R_drew)); exact HO_149001.out) hb)
                        have n1_ := sqb BK141 hb
                        have n2_ := sqb BK142 hb
                        have n3_ := sqb BK148 hb
                        have n4_ := sqs HB hb
                        clear HO_149001
                        clear BK141
                        clear BK142
                        clear BK148
                        clear HB
                        have HO_149001 := n0_
                        have BK141 := n1_
                        have BK142 := n2_
                        have BK148 := n3_
                        have HB := n4_
                        clear n0_ n1_ n2_ n3_ n4_
                        (try clear hb)
                        refine hK.out _ _ sqz (fun hHeld => ?_)
                        clear hK K
                        refine sqnm ?_
                        refine sqo HT_ 7 41 (fun K hK => ?_)
                        refine sqG Try.func115 #[.agg #[.int .i64 t144, .slice Ao36 x149001_3.length co36], .int .i64 x5_1, .int .i64 x7_3] ?_
                        with_reducible refine (spec_l11At.calls t144 _ _ x149001_3 x5_1 x7_3 t150 _ ?side1 ?side2 A27.out).mono ?_
                        (case side1 => repeat (first | exact (Kd.R_reads' HO_149001.out).2.2 | (with_reducible refine Kd.C_alloc ?_ _) | (with_reducible refine Kd.C_drewN ?_ _) | (with_reducible refine Kd.C_drew ?_)))
                        (case side2 => exact (Kd.R_reads' HO_149001.out).2.1)
                        rintro e w38 ⟨rfl, hb⟩
                        refine ⟨_, rfl, ?_⟩
                        have n0_ := Aside0.mk (Kd.R_below (by (with_reducible repeat (first | apply Kd.R_alloc | apply Kd.R_drewN | apply Kd.R_drew)); exact HO_149001.out) hb)
                        have n1_ := sqb BK141 hb
                        have n2_ := sqb BK142 hb
                        have n3_ := sqb BK148 hb
                        have n4_ := sqs HB hb
                        clear HO_149001
                        clear BK141
                        clear BK142
                        clear BK148
                        clear HB
                        have HO_149001 := n0_
                        have BK141 := n1_
                        have BK142 := n2_
                        have BK148 := n3_
                        have HB := n4_
                        clear n0_ n1_ n2_ n3_ n4_
                        (try clear hb)
                        refine hK.out _ _ sqz (fun hHeld => ?_)
                        clear hK K
                        refine sqnm ?_
                        refine sqo HT_ 8 42 (fun K hK => ?_)
                        refine sqG Try.func114 #[.int .i64 t149, .int .i64 t150] ?_
                        with_reducible refine (spec_l11Add.calls t149 t150 t151 _ A28.out).mono ?_
                        rintro e w' ⟨rfl, ⟨nd, rfl⟩⟩
                        refine ⟨_, rfl, ?_⟩
                        refine hK.out _ _ sqz (fun hHeld => ?_)
                        clear hK K
                        refine sqnm ?_
                        refine sqp HT_ 9 8 ?_
                        refine done_ (done_of HT_.out (by kernel_rfl)) ?_
                        have hnb39 := NB148_142.out
                        have hnc39 := NB142_148.out
                        obtain ⟨hcz40_0, hcz40_1, hfz40_0, hfz40_1⟩ := sqc2 BK148
                        try go_wp2_with (first | ((with_reducible refine gate_callee (f := 115) rfl ?_); refine sqL (some 47) Try.func115 #[.agg #[.int .i64 t144, .slice Ao36 x149001_3.length co36], .int .i64 x6_2, .int .i64 x7_3] ?_; (with_reducible refine (spec_l11At.calls t144 _ _ x149001_3 x6_2 x7_3 t152 _ ?side1 ?side2 A29.out).mono ?_); (case side1 => repeat (first | exact (Kd.R_reads' HO_149001.out).2.2 | (with_reducible refine Kd.C_alloc ?_ _) | (with_reducible refine Kd.C_drewN ?_ _) | (with_reducible refine Kd.C_drew ?_))); (case side2 => exact (Kd.R_reads' HO_149001.out).2.1); rintro e w41 ⟨rfl, hb⟩; refine ⟨_, rfl, ?_⟩; have n0_ := Aside0.mk (Kd.R_below (by (with_reducible repeat (first | apply Kd.R_alloc | apply Kd.R_drewN | apply Kd.R_drew)); exact HO_149001.out) hb); have n1_ := sqb BK141 hb; have n2_ := sqb BK142 hb; have n3_ := sqb BK148 hb; have n4_ := sqs HB hb; clear HO_149001; clear BK141; clear BK142; clear BK148; clear HB; have HO_149001 := n0_; have BK141 := n1_; have BK142 := n2_; have BK148 := n3_; have HB := n4_; clear n0_ n1_ n2_ n3_ n4_; (try clear hb); obtain ⟨hcz42_0, hcz42_1, hfz42_0, hfz42_1⟩ := sqc2 BK148) | ((with_reducible refine gate_callee (f := 116) rfl ?_); refine sqL (some 53) Try.func116 #[.agg #[.int .i64 t144, .slice Ao36 x149001_3.length co36], .int .i64 x6_2, .int .i64 x7_3, .int .i64 t151] ?_; (with_reducible refine (spec_l11Put.calls t144 (fun k_ => some k_ = (.slice Ao36 x149001_3.length co36 : Value).ownBlock) (.slice Ao36 x149001_3.length co36) x149001_3 x6_2 x7_3 t151 t153 w _ ?side1 ?side2 A31.out).mono ?_); (case side1 => repeat (first | (with_reducible first | exact HB.out | apply below_alloc | apply pw_below_drewN | apply below_drew1 | refine below_set ?_ GE141.out | refine below_set ?_ GE142.out | refine below_set ?_ GE148.out) | exact HB.out)); (case side2 => exact Kd.R_tight rfl HO_149001.out); rintro e w43 ⟨rfl, hy0, hb, hkp⟩; refine ⟨_, rfl, ?_⟩; have n0_ := Aside0.mk (Kd.R_reok rfl hy0 (fun k_ e_ => HO_149001.out.1 k_ e_)); have n1_ := Aside0.mk (blk_kept (by refine sqt ?_; exact BK141.out) hkp (fun hs_ => (fun e_ => (Kd.R_ne HO_149001.out BK141.out (by decide)) e_) hs_)); have n2_ := Aside0.mk (blk_kept (by refine sqt ?_; exact BK142.out) hkp (fun hs_ => (fun e_ => (Kd.R_ne HO_149001.out BK142.out (by decide)) e_) hs_)); have n3_ := Aside0.mk (blk_kept (by refine sqt ?_; exact BK148.out) hkp (fun hs_ => (fun e_ => (Kd.R_ne HO_149001.out BK148.out (by decide)) e_) hs_)); have n4_ := Aside0.mk (hb); clear HO_149001; clear BK141; clear BK142; clear BK148; clear HB; have HO_149001 := n0_; have BK141 := n1_; have BK142 := n2_; have BK148 := n3_; have HB := n4_; clear n0_ n1_ n2_ n3_ n4_; (try clear hb); (try clear hkp); (try clear hy0)))
                        go_roundg k3
                        case measure => have := HK1.out; have := HK2.out; have := HK3.out; omega
                        case rel => exact ⟨(wrap64 (x7_3 + 1)), (t153), (.slice Ao36 x149001_3.length co36), (by first | rfl | (simp; done) | (simp [*]; done)), H', ⟨by have := HK1.out; have := HK2.out; have := HK3.out; omega⟩, ⟨by (with_reducible repeat (first | apply Kd.R_alloc | apply Kd.R_drewN | apply Kd.R_drew)); exact HO_149001.out⟩, sqk BK141, sqk BK142, sqk BK148, sqh HB⟩
                      · rw [if_neg c30] at H
                        have c30b0 : decide (t151 < t152) = false := decide_eq_false c30
                        clear c30
                        have H' := Aside0.mk H
                        clear H
                        have hnb44 := NB141_142.out
                        have hnc44 := NB142_141.out
                        have hnb45 := NB141_148.out
                        have hnc45 := NB148_141.out
                        obtain ⟨hcz46_0, hcz46_1, hfz46_0, hfz46_1⟩ := sqc2 BK141
                        try go_wp2
                        replace HO_149001 := Aside0.mk (Kd.R_drew HO_149001.out)
                        replace BK141 := Aside0.mk (blk_drew BK141.out)
                        replace BK142 := Aside0.mk (blk_drew BK142.out)
                        replace BK148 := Aside0.mk (blk_drew BK148.out)
                        replace HB := Aside0.mk (below_drew1 HB.out)
                        obtain ⟨Ao48, co48, eo48⟩ := Kd.R_slice HO_149001.out
                        (first | subst eo48 | (injection eo48 with f1_ f2_ f3_; have f4_ := f1_.symm; have f5_ := f3_.symm; clear f1_ f2_ f3_; subst f4_; subst f5_))
                        refine start_ (n := 10) (S := fun w' => w'.cell? ⟨gb148, 0, none⟩ = some (.int .i64 t144) ∧ w'.cell? ⟨gb148, 1, none⟩ = some (.slice Ao48 x149001_3.length co48)) (ds := []) #[false, false, false, false, false, false, false, false, false, false] (by kernel_rfl) rfl rfl ⟨(blk_cell BK148.out 0).trans rfl, (blk_cell BK148.out 1).trans rfl⟩ (fun hHeld => ?_); refine with_tabW spec_GapsClose.tab13 spec_GapsClose.bits13 (fun HT_ HW_ => ?_)
                        generalize wr.drew = w47 at HO_149001 BK141 BK142 BK148 HB hHeld ⊢
                        refine sqp HT_ 1 35 ?_
                        refine sqp HT_ 2 36 ?_
                        refine sqp HT_ 5 39 ?_
                        refine sqp HT_ 6 40 ?_
                        refine sqw HT_ HW_ 0 34 hHeld ?_
                        refine sqw HT_ HW_ 4 38 hHeld ?_
                        refine sqo HT_ 3 37 (fun K hK => ?_)
                        refine sqG Try.func115 #[.agg #[.int .i64 t144, .slice Ao48 x149001_3.length co48], .int .i64 x6_2, .int .i64 x5_1] ?_
                        with_reducible refine (spec_l11At.calls t144 _ _ x149001_3 x6_2 x5_1 t149 _ ?side1 ?side2 A26.out).mono ?_
                        (case side1 => repeat (first | exact (Kd.R_reads' HO_149001.out).2.2 | (with_reducible refine Kd.C_alloc ?_ _) | (with_reducible refine Kd.C_drewN ?_ _) | (with_reducible refine Kd.C_drew ?_)))
                        (case side2 => exact (Kd.R_reads' HO_149001.out).2.1)
                        rintro e w49 ⟨rfl, hb⟩
                        refine ⟨_, rfl, ?_⟩
                        have n0_ := Aside0.mk (Kd.R_below (by (with_reducible repeat (first | apply Kd.R_alloc | apply Kd.R_drewN | apply Kd.R_drew)); exact HO_149001.out) hb)
                        have n1_ := sqb BK141 hb
                        have n2_ := sqb BK142 hb
                        have n3_ := sqb BK148 hb
                        have n4_ := sqs HB hb
                        clear HO_149001
                        clear BK141
                        clear BK142
                        clear BK148
                        clear HB
                        have HO_149001 := n0_
                        have BK141 := n1_
                        have BK142 := n2_
                        have BK148 := n3_
                        have HB := n4_
                        clear n0_ n1_ n2_ n3_ n4_
                        (try clear hb)
                        refine hK.out _ _ sqz (fun hHeld => ?_)
                        clear hK K
                        refine sqnm ?_
                        refine sqo HT_ 7 41 (fun K hK => ?_)
                        refine sqG Try.func115 #[.agg #[.int .i64 t144, .slice Ao48 x149001_3.length co48], .int .i64 x5_1, .int .i64 x7_3] ?_
                        with_reducible refine (spec_l11At.calls t144 _ _ x149001_3 x5_1 x7_3 t150 _ ?side1 ?side2 A27.out).mono ?_
                        (case side1 => repeat (first | exact (Kd.R_reads' HO_149001.out).2.2 | (with_reducible refine Kd.C_alloc ?_ _) | (with_reducible refine Kd.C_drewN ?_ _) | (with_reducible refine Kd.C_drew ?_)))
                        (case side2 => exact (Kd.R_reads' HO_149001.out).2.1)
                        rintro e w50 ⟨rfl, hb⟩
                        refine ⟨_, rfl, ?_⟩
                        have n0_ := Aside0.mk (Kd.R_below (by (with_reducible repeat (first | apply Kd.R_alloc | apply Kd.R_drewN | apply Kd.R_drew)); exact HO_149001.out) hb)
                        have n1_ := sqb BK141 hb
                        have n2_ := sqb BK142 hb
                        have n3_ := sqb BK148 hb
                        have n4_ := sqs HB hb
                        clear HO_149001
                        clear BK141
                        clear BK142
                        clear BK148
                        clear HB
                        have HO_149001 := n0_
                        have BK141 := n1_
                        have BK142 := n2_
                        have BK148 := n3_
                        have HB := n4_
                        clear n0_ n1_ n2_ n3_ n4_
                        (try clear hb)
                        refine hK.out _ _ sqz (fun hHeld => ?_)
                        clear hK K
                        refine sqnm ?_
                        refine sqo HT_ 8 42 (fun K hK => ?_)
                        refine sqG Try.func114 #[.int .i64 t149, .int .i64 t150] ?_
                        with_reducible refine (spec_l11Add.calls t149 t150 t151 _ A28.out).mono ?_
                        rintro e w' ⟨rfl, ⟨nd, rfl⟩⟩
                        refine ⟨_, rfl, ?_⟩
                        refine hK.out _ _ sqz (fun hHeld => ?_)
                        clear hK K
                        refine sqnm ?_
                        refine sqp HT_ 9 8 ?_
                        refine done_ (done_of HT_.out (by kernel_rfl)) ?_
                        have hnb51 := NB148_142.out
                        have hnc51 := NB142_148.out
                        obtain ⟨hcz52_0, hcz52_1, hfz52_0, hfz52_1⟩ := sqc2 BK148
                        try go_wp2_with (first | ((with_reducible refine gate_callee (f := 115) rfl ?_); refine sqL (some 47) Try.func115 #[.agg #[.int .i64 t144, .slice Ao48 x149001_3.length co48], .int .i64 x6_2, .int .i64 x7_3] ?_; (with_reducible refine (spec_l11At.calls t144 _ _ x149001_3 x6_2 x7_3 t152 _ ?side1 ?side2 A29.out).mono ?_); (case side1 => repeat (first | exact (Kd.R_reads' HO_149001.out).2.2 | (with_reducible refine Kd.C_alloc ?_ _) | (with_reducible refine Kd.C_drewN ?_ _) | (with_reducible refine Kd.C_drew ?_))); (case side2 => exact (Kd.R_reads' HO_149001.out).2.1); rintro e w53 ⟨rfl, hb⟩; refine ⟨_, rfl, ?_⟩; have n0_ := Aside0.mk (Kd.R_below (by (with_reducible repeat (first | apply Kd.R_alloc | apply Kd.R_drewN | apply Kd.R_drew)); exact HO_149001.out) hb); have n1_ := sqb BK141 hb; have n2_ := sqb BK142 hb; have n3_ := sqb BK148 hb; have n4_ := sqs HB hb; clear HO_149001; clear BK141; clear BK142; clear BK148; clear HB; have HO_149001 := n0_; have BK141 := n1_; have BK142 := n2_; have BK148 := n3_; have HB := n4_; clear n0_ n1_ n2_ n3_ n4_; (try clear hb)))
                        go_roundg k3
                        case measure => have := HK1.out; have := HK2.out; have := HK3.out; omega
                        case rel => exact ⟨(wrap64 (x7_3 + 1)), (x149001_3), (.slice Ao48 x149001_3.length co48), (by first | rfl | (simp; done) | (simp [*]; done)), H', ⟨by have := HK1.out; have := HK2.out; have := HK3.out; omega⟩, ⟨by (with_reducible repeat (first | apply Kd.R_alloc | apply Kd.R_drewN | apply Kd.R_drew)); exact HO_149001.out⟩, sqk BK141, sqk BK142, sqk BK148, sqh HB⟩
                    · rw [if_neg c25] at H
                      have c25b0 : decide (x7_3 ≤ a0_0) = false := decide_eq_false c25
                      clear c25
                      have H' := Aside0.mk H
                      clear H
                      have hnb54 := NB141_142.out
                      have hnc54 := NB142_141.out
                      have hnb55 := NB141_148.out
                      have hnc55 := NB148_141.out
                      obtain ⟨hcz56_0, hcz56_1, hfz56_0, hfz56_1⟩ := sqc2 BK141
                      go_wp2
                      go_roundg k3
                      case measure => have := HK1.out; have := HK2.out; have := HK3.out; omega
                      case rel => exact ⟨(wrap64 (x6_2 + 1)), (x149001_3), (u149001), (by first | rfl | (simp; done) | (simp [*]; done)), H', ⟨by have := HK1.out; have := HK2.out; have := HK3.out; omega⟩, ⟨by (with_reducible repeat (first | apply Kd.R_alloc | apply Kd.R_drewN | apply Kd.R_drew)); exact HO_149001.out⟩, sqk BK141, sqk BK142, sqk BK148, sqh HB⟩
              · rw [if_neg c21] at H
                have c21b0 : decide (x6_2 ≤ a0_0) = false := decide_eq_false c21
                clear c21
                have H' := Aside0.mk H
                clear H
                have hnb57 := NB141_142.out
                have hnc57 := NB142_141.out
                have hnb58 := NB141_148.out
                have hnc58 := NB148_141.out
                obtain ⟨hcz59_0, hcz59_1, hfz59_0, hfz59_1⟩ := sqc2 BK141
                go_wp2
                go_roundg k2
                case measure => have := HK1.out; have := HK2.out; omega
                case rel => exact ⟨(wrap64 (x5_1 + 1)), (x149001_2), (u149001), (by first | rfl | (simp; done) | (simp [*]; done)), H', ⟨by have := HK1.out; have := HK2.out; omega⟩, ⟨by (with_reducible repeat (first | apply Kd.R_alloc | apply Kd.R_drewN | apply Kd.R_drew)); exact HO_149001.out⟩, sqk BK141, sqk BK142, sqk BK148, sqh HB⟩
        · rw [if_neg c17] at H
          have c17b0 : decide (x5_1 ≤ a0_0) = false := decide_eq_false c17
          clear c17
          have H' := Aside0.mk H
          clear H
          have hnb60 := NB141_142.out
          have hnc60 := NB142_141.out
          have hnb61 := NB141_148.out
          have hnc61 := NB148_141.out
          obtain ⟨hcz62_0, hcz62_1, hfz62_0, hfz62_1⟩ := sqc2 BK141
          go_wp2
          go_loopg [9] k1 (fun kq v9 w' => ∃ (x9_2 : Int) (x143000_2 : Int), v9 = .int .i64 x9_2 ∧ Aside0 (spec_GapsClose.l3 kq x9_2 a0_0 l0_1 t144 x149001_1 = some (r1, r2, r3)) ∧ Aside0 (kq ≤ k1) ∧ Aside0 (Kd.R (Kd.int .i64) 3 w' w.heap.size (fun _ => True) u149001 x149001_1) ∧ Aside0 (w'.heap[gb141]? = some (.cells #[.int .i64 a0_0, (.slice A0_1 l0_1.length c0_1)] 41 (0, 0))) ∧ Aside0 (w'.heap[gb142]? = some (.cells #[.int .i64 x143000_2, (.slice none 0 0)] 41 (0, 0))) ∧ Aside0 (w'.heap[gb148]? = some (.cells #[.int .i64 t144, u149001] 41 (0, 0))) ∧ Aside0 (Below w.heap.size w w'))
          case atStart => exact ⟨(0), (0), (by first | rfl | (simp; done) | (simp [*]; done)), H', ⟨Nat.le_refl _⟩, ⟨by (with_reducible repeat (first | apply Kd.R_alloc | apply Kd.R_drewN | apply Kd.R_drew)); exact HO_149001.out⟩, sqk BK141, sqk BK142, sqk BK148, sqh HB⟩
          case round =>
            clear H'
            try clear c1
            try clear c2
            try clear p2
            try clear c3
            try clear c4
            try clear c5
            try clear c6
            try clear p6
            try clear c7
            try clear c11
            try clear c13
            try clear c14
            try clear c17
            try clear c17b0
            try clear c18
            try clear c19
            try clear c21
            try clear c21b0
            try clear c22
            try clear c23
            try clear c25
            try clear c25b0
            try clear c26
            try clear c30
            try clear c30b0
            try clear c32
            try clear c33
            try clear c39
            try clear c41
            try clear c44
            try clear c45
            try clear c51
            try clear c54
            try clear c55
            try clear c57
            try clear c58
            try clear c60
            try clear c61
            try clear hcz10_0
            try clear hcz10_1
            try clear hcz15_0
            try clear hcz15_1
            try clear hcz20_0
            try clear hcz20_1
            try clear hcz24_0
            try clear hcz24_1
            try clear hcz34_0
            try clear hcz34_1
            try clear hcz40_0
            try clear hcz40_1
            try clear hcz42_0
            try clear hcz42_1
            try clear hcz46_0
            try clear hcz46_1
            try clear hcz52_0
            try clear hcz52_1
            try clear hcz56_0
            try clear hcz56_1
            try clear hcz59_0
            try clear hcz59_1
            try clear hcz62_0
            try clear hcz62_1
            try clear hcz8_0
            try clear hcz8_1
            try clear hfz10_0
            try clear hfz10_1
            try clear hfz15_0
            try clear hfz15_1
            try clear hfz20_0
            try clear hfz20_1
            try clear hfz24_0
            try clear hfz24_1
            try clear hfz34_0
            try clear hfz34_1
            try clear hfz40_0
            try clear hfz40_1
            try clear hfz42_0
            try clear hfz42_1
            try clear hfz46_0
            try clear hfz46_1
            try clear hfz52_0
            try clear hfz52_1
            try clear hfz56_0
            try clear hfz56_1
            try clear hfz59_0
            try clear hfz59_1
            try clear hfz62_0
            try clear hfz62_1
            try clear hfz8_0
            try clear hfz8_1
            try clear p2
            obtain ⟨x9_2, x143000_2, rfl, HA, HK2, HO_149001, BK141, BK142, BK148, HB⟩ := hrel
            cases gk with
            | zero => exact absurd HA.out (by simp [spec_GapsClose.l3])
            | succ k2 =>
              have H := HA.out
              clear HA
              simp only [spec_GapsClose.l3] at H
              by_cases c63 : x9_2 < (x149001_1.length : Int)
              · rw [if_pos c63] at H
                have c63b0 : decide (x9_2 < (x149001_1.length : Int)) = true := decide_eq_true c63
                clear c63
                by_cases c64 : 0 ≤ x9_2
                · rw [if_pos c64] at H
                  have c64b0 : decide (0 ≤ x9_2) = true := decide_eq_true c64
                  clear c64
                  by_cases c65 : (rd x149001_1 x9_2) < (-4294967296)
                  · rw [if_pos c65] at H
                    have c65b0 : decide ((rd x149001_1 x9_2) < (-4294967296)) = true := decide_eq_true c65
                    clear c65
                    simp only [Option.some.injEq, Prod.mk.injEq] at H
                    obtain ⟨rfl, rfl, rfl⟩ := H
                    have hnb66 := NB148_141.out
                    have hnc66 := NB141_148.out
                    have hnb67 := NB148_142.out
                    have hnc67 := NB142_148.out
                    obtain ⟨hcz68_0, hcz68_1, hfz68_0, hfz68_1⟩ := sqc2 BK148
                    obtain ⟨Ao69, co69, eo69⟩ := Kd.R_slice HO_149001.out
                    subst eo69
                    have p154 : 0 ≤ (x9_2 : Int) := of_decide_eq_true (by first | (with_reducible assumption) | assumption)
                    have q154 : x9_2 < (x149001_1.length : Int) := of_decide_eq_true (by first | (with_reducible assumption) | assumption)
                    obtain ⟨ad154, e154, hx154_0⟩ := Kd.at_int (Kd.R_reads' HO_149001.out).2.2 x9_2 p154 q154
                    cases e154
                    replace p154 := eq_true p154
                    replace q154 := eq_true q154
                    have hnb70 := NB142_141.out
                    have hnc70 := NB141_142.out
                    obtain ⟨hcz71_0, hcz71_1, hfz71_0, hfz71_1⟩ := sqc2 BK142
                    go_wp2
                    refine bodyPost_ret (results_ct rfl _ _ gb142 41 #[.int .i64 0, .slice none 0 0] (0, 0) _ rfl (by refine sqt ?_; refine blk_put (cs := #[.int .i64 0, .slice none 0 0]) ?_ 1 _ rfl; refine sqt ?_; refine blk_put (cs := #[.int .i64 x143000_2, .slice none 0 0]) ?_ 0 _ rfl; refine sqt ?_; exact BK142.out) Try.underlying41 rfl (by kernel_rfl)) rfl ?_
                    exact ⟨_, by first | rfl | (simp [errW_none, errW_some] <;> rfl) | (simp [*, errW_none, errW_some] <;> rfl), by first | exact Kd.R_nil _ _ _ _ _ | exact Kd.N_nil _ _ _ _ _ | exact Kd.V_nil _ _ _ _ _ | exact Kd.Q_nil _ _ _ _ _ | exact Kd.S_nil _ _ _ _ _, by repeat (first | (with_reducible first | exact HB.out | apply below_alloc | apply pw_below_drewN | apply below_drew1 | refine below_set ?_ GE141.out | refine below_set ?_ GE142.out | refine below_set ?_ GE148.out) | exact HB.out)⟩
                  · rw [if_neg c65] at H
                    have c65b0 : decide ((rd x149001_1 x9_2) < (-4294967296)) = false := decide_eq_false c65
                    clear c65
                    by_cases c72 : (wrap64 (a0_0 + 2)) = 0
                    · rw [if_pos c72] at H
                      exact absurd H (by simp)
                    · rw [if_neg c72] at H
                      have c72b0 : ((wrap64 (a0_0 + 2)) == 0) = false := beq_eq_false_iff_ne.mpr c72
                      have c72b1 : ((wrap64 (a0_0 + 2)) != 0) = true := bne_iff_ne.mpr c72
                      by_cases c73 : (Int.tmod x9_2 (wrap64 (a0_0 + 2))) = 0
                      · rw [if_pos c73] at H
                        have c73b0 : ((Int.tmod x9_2 (wrap64 (a0_0 + 2))) == 0) = true := beq_iff_eq.mpr c73
                        have c73b1 : ((Int.tmod x9_2 (wrap64 (a0_0 + 2))) != 0) = false := bne_eq_false_iff_eq.mpr c73
                        clear c73
                        by_cases c74 : (rd x149001_1 x9_2) < 0
                        · rw [if_pos c74] at H
                          have c74b0 : decide ((rd x149001_1 x9_2) < 0) = true := decide_eq_true c74
                          clear c74
                          simp only [Option.some.injEq, Prod.mk.injEq] at H
                          obtain ⟨rfl, rfl, rfl⟩ := H
                          have hnb75 := NB148_141.out
                          have hnc75 := NB141_148.out
                          have hnb76 := NB148_142.out
                          have hnc76 := NB142_148.out
                          obtain ⟨hcz77_0, hcz77_1, hfz77_0, hfz77_1⟩ := sqc2 BK148
                          obtain ⟨Ao78, co78, eo78⟩ := Kd.R_slice HO_149001.out
                          subst eo78
                          have p154 : 0 ≤ (x9_2 : Int) := of_decide_eq_true (by first | (with_reducible assumption) | assumption)
                          have q154 : x9_2 < (x149001_1.length : Int) := of_decide_eq_true (by first | (with_reducible assumption) | assumption)
                          obtain ⟨ad154, e154, hx154_0⟩ := Kd.at_int (Kd.R_reads' HO_149001.out).2.2 x9_2 p154 q154
                          cases e154
                          replace p154 := eq_true p154
                          replace q154 := eq_true q154
                          have hnb79 := NB141_142.out
                          have hnc79 := NB142_141.out
                          obtain ⟨hcz80_0, hcz80_1, hfz80_0, hfz80_1⟩ := sqc2 BK141
                          have p155 : 0 ≤ (x9_2 : Int) := of_decide_eq_true (by first | (with_reducible assumption) | assumption)
                          have q155 : x9_2 < (x149001_1.length : Int) := of_decide_eq_true (by first | (with_reducible assumption) | assumption)
                          obtain ⟨ad155, e155, hx155_0⟩ := Kd.at_int (Kd.R_reads' HO_149001.out).2.2 x9_2 p155 q155
                          obtain rfl : ad154 = ad155 := (by injection e155)
                          replace p155 := eq_true p155
                          replace q155 := eq_true q155
                          obtain ⟨hcz81_0, hcz81_1, hfz81_0, hfz81_1⟩ := sqc2 BK142
                          go_wp2
                          refine bodyPost_ret (results_ct rfl _ _ gb142 41 #[.int .i64 0, .slice none 0 0] (0, 0) _ rfl (by refine sqt ?_; refine blk_put (cs := #[.int .i64 0, .slice none 0 0]) ?_ 1 _ rfl; refine sqt ?_; refine blk_put (cs := #[.int .i64 x143000_2, .slice none 0 0]) ?_ 0 _ rfl; refine sqt ?_; exact BK142.out) Try.underlying41 rfl (by kernel_rfl)) rfl ?_
                          exact ⟨_, by first | rfl | (simp [errW_none, errW_some] <;> rfl) | (simp [*, errW_none, errW_some] <;> rfl), by first | exact Kd.R_nil _ _ _ _ _ | exact Kd.N_nil _ _ _ _ _ | exact Kd.V_nil _ _ _ _ _ | exact Kd.Q_nil _ _ _ _ _ | exact Kd.S_nil _ _ _ _ _, by repeat (first | (with_reducible first | exact HB.out | apply below_alloc | apply pw_below_drewN | apply below_drew1 | refine below_set ?_ GE141.out | refine below_set ?_ GE142.out | refine below_set ?_ GE148.out) | exact HB.out)⟩
                        · rw [if_neg c74] at H
                          have c74b0 : decide ((rd x149001_1 x9_2) < 0) = false := decide_eq_false c74
                          clear c74
                          have H' := Aside0.mk H
                          clear H
                          have hnb82 := NB148_141.out
                          have hnc82 := NB141_148.out
                          have hnb83 := NB148_142.out
                          have hnc83 := NB142_148.out
                          obtain ⟨hcz84_0, hcz84_1, hfz84_0, hfz84_1⟩ := sqc2 BK148
                          obtain ⟨Ao85, co85, eo85⟩ := Kd.R_slice HO_149001.out
                          subst eo85
                          have p154 : 0 ≤ (x9_2 : Int) := of_decide_eq_true (by first | (with_reducible assumption) | assumption)
                          have q154 : x9_2 < (x149001_1.length : Int) := of_decide_eq_true (by first | (with_reducible assumption) | assumption)
                          obtain ⟨ad154, e154, hx154_0⟩ := Kd.at_int (Kd.R_reads' HO_149001.out).2.2 x9_2 p154 q154
                          cases e154
                          replace p154 := eq_true p154
                          replace q154 := eq_true q154
                          have hnb86 := NB141_142.out
                          have hnc86 := NB142_141.out
                          obtain ⟨hcz87_0, hcz87_1, hfz87_0, hfz87_1⟩ := sqc2 BK141
                          have p155 : 0 ≤ (x9_2 : Int) := of_decide_eq_true (by first | (with_reducible assumption) | assumption)
                          have q155 : x9_2 < (x149001_1.length : Int) := of_decide_eq_true (by first | (with_reducible assumption) | assumption)
                          obtain ⟨ad155, e155, hx155_0⟩ := Kd.at_int (Kd.R_reads' HO_149001.out).2.2 x9_2 p155 q155
                          obtain rfl : ad154 = ad155 := (by injection e155)
                          replace p155 := eq_true p155
                          replace q155 := eq_true q155
                          go_wp2
                          go_roundg k2
                          case measure => have := HK1.out; have := HK2.out; omega
                          case rel => exact ⟨(wrap64 (x9_2 + 1)), (x143000_2), (by first | rfl | (simp; done) | (simp [*]; done)), H', ⟨by have := HK1.out; have := HK2.out; omega⟩, ⟨by (with_reducible repeat (first | apply Kd.R_alloc | apply Kd.R_drewN | apply Kd.R_drew)); exact HO_149001.out⟩, sqk BK141, sqk BK142, sqk BK148, sqh HB⟩
                      · rw [if_neg c73] at H
                        have c73b0 : ((Int.tmod x9_2 (wrap64 (a0_0 + 2))) == 0) = false := beq_eq_false_iff_ne.mpr c73
                        have c73b1 : ((Int.tmod x9_2 (wrap64 (a0_0 + 2))) != 0) = true := bne_iff_ne.mpr c73
                        have H' := Aside0.mk H
                        clear H
                        have hnb88 := NB148_141.out
                        have hnc88 := NB141_148.out
                        have hnb89 := NB148_142.out
                        have hnc89 := NB142_148.out
                        obtain ⟨hcz90_0, hcz90_1, hfz90_0, hfz90_1⟩ := sqc2 BK148
                        obtain ⟨Ao91, co91, eo91⟩ := Kd.R_slice HO_149001.out
                        subst eo91
                        have p154 : 0 ≤ (x9_2 : Int) := of_decide_eq_true (by first | (with_reducible assumption) | assumption)
                        have q154 : x9_2 < (x149001_1.length : Int) := of_decide_eq_true (by first | (with_reducible assumption) | assumption)
                        obtain ⟨ad154, e154, hx154_0⟩ := Kd.at_int (Kd.R_reads' HO_149001.out).2.2 x9_2 p154 q154
                        cases e154
                        replace p154 := eq_true p154
                        replace q154 := eq_true q154
                        have hnb92 := NB141_142.out
                        have hnc92 := NB142_141.out
                        obtain ⟨hcz93_0, hcz93_1, hfz93_0, hfz93_1⟩ := sqc2 BK141
                        go_wp2
                        go_roundg k2
                        case measure => have := HK1.out; have := HK2.out; omega
                        case rel => exact ⟨(wrap64 (x9_2 + 1)), (x143000_2), (by first | rfl | (simp; done) | (simp [*]; done)), H', ⟨by have := HK1.out; have := HK2.out; omega⟩, ⟨by (with_reducible repeat (first | apply Kd.R_alloc | apply Kd.R_drewN | apply Kd.R_drew)); exact HO_149001.out⟩, sqk BK141, sqk BK142, sqk BK148, sqh HB⟩
                · rw [if_neg c64] at H
                  exact absurd H (by simp)
              · rw [if_neg c63] at H
                have c63b0 : decide (x9_2 < (x149001_1.length : Int)) = false := decide_eq_false c63
                clear c63
                simp only [Option.some.injEq, Prod.mk.injEq] at H
                obtain ⟨rfl, rfl, rfl⟩ := H
                have hnb94 := NB148_141.out
                have hnc94 := NB141_148.out
                have hnb95 := NB148_142.out
                have hnc95 := NB142_148.out
                obtain ⟨hcz96_0, hcz96_1, hfz96_0, hfz96_1⟩ := sqc2 BK148
                obtain ⟨Ao97, co97, eo97⟩ := Kd.R_slice HO_149001.out
                subst eo97
                have hnb98 := NB142_141.out
                have hnc98 := NB141_142.out
                obtain ⟨hcz99_0, hcz99_1, hfz99_0, hfz99_1⟩ := sqc2 BK142
                go_wp2
                refine bodyPost_ret (results_ct rfl _ _ gb142 41 #[.int .i64 t144, .slice Ao97 x149001_1.length co97] (0, 0) _ rfl (by refine sqt ?_; refine blk_put (cs := #[.int .i64 t144, .slice none 0 0]) ?_ 1 _ rfl; refine sqt ?_; refine blk_put (cs := #[.int .i64 x143000_2, .slice none 0 0]) ?_ 0 _ rfl; refine sqt ?_; exact BK142.out) Try.underlying41 rfl (by kernel_rfl)) rfl ?_
                exact ⟨_, by first | rfl | (simp [errW_none, errW_some] <;> rfl) | (simp [*, errW_none, errW_some] <;> rfl), by (with_reducible repeat (first | apply Kd.R_alloc | apply Kd.R_drewN | apply Kd.R_drew)); exact Kd.R_mono (Kd.R_far (p := ⟨gb142, 1, none⟩) (Kd.R_far (p := ⟨gb142, 0, none⟩) (Kd.R_types HO_149001.out BK142.out (by decide)) (fun _ hk => hk.2) (.int .i64 t144)) (fun _ hk => hk.2) (.slice Ao97 x149001_1.length co97)) (fun _ hk => trivial), by repeat (first | (with_reducible first | exact HB.out | apply below_alloc | apply pw_below_drewN | apply below_drew1 | refine below_set ?_ GE141.out | refine below_set ?_ GE142.out | refine below_set ?_ GE148.out) | exact HB.out)⟩
  · replace c3 := Bool.eq_false_iff.mpr c3
    subst c3
    have H1 : (some (0, ([] : List Int), false)) = some (r1, r2, r3) := by rw [if_neg (show ¬ (false = true) by decide)] at H; exact H
    clear H
    have H := H1
    clear H1
    simp only [Option.some.injEq, Prod.mk.injEq] at H
    obtain ⟨rfl, rfl, rfl⟩ := H
    go_enter Try.func26, Try.ntmps26
    go_wp2_with (first | ((with_reducible refine gate_dst (N := 1) rfl ?_); refine sqx 1 #[.int .i64 a0_0, .slice A0_1 l0_1.length c0_1] 41 ?_; intro gb141 hg w100 hbox hb; have BK141 := Aside0.mk (hbox); have GW141 := sqg HB hg; have GE141 := sqg HB hg; replace HB := sqs HB hb; clear hb hbox hg) | ((with_reducible refine gate_dst (N := 2) rfl ?_); refine sqx 2 #[.int .i64 0, .slice none 0 0] 41 ?_; intro gb142 hg w101 hbox hb; have BK142 := Aside0.mk (hbox); have GW142 := sqg HB hg; have GE142 := sqg HB hg; have NB141_142 := sqn BK141 hg; have NB142_141 := sqm BK141 hg; replace BK141 := sqb BK141 hb; replace HB := sqs HB hb; clear hb hbox hg; have hnb102 := NB141_142.out; have hnc102 := NB142_141.out; obtain ⟨hcz103_0, hcz103_1, hfz103_0, hfz103_1⟩ := sqc2 BK141) | ((with_reducible refine gate_callee (f := 41) rfl ?_); refine sqL (some 11) Try.func41 #[.agg #[.int .i64 a0_0, .slice A0_1 l0_1.length c0_1]] ?_; (with_reducible refine (spec_GapsOk.calls k a0_0 _ _ l0_1 false _ ?side1 ?side2 A2.out).mono ?_); (case side1 => repeat (first | exact (Kd.C_below HR0_1.out HB.out) | (with_reducible refine Kd.C_alloc ?_ _) | (with_reducible refine Kd.C_drewN ?_ _) | (with_reducible refine Kd.C_drew ?_))); (case side2 => exact HC0_1.out); rintro e w104 ⟨rfl, hb⟩; refine ⟨_, rfl, ?_⟩; replace BK141 := sqb BK141 hb; replace BK142 := sqb BK142 hb; replace HB := sqs HB hb; (try clear hb); obtain ⟨hcz105_0, hcz105_1, hfz105_0, hfz105_1⟩ := sqc2 BK142))
    refine bodyPost_ret (results_ct rfl _ _ gb142 41 #[.int .i64 0, .slice none 0 0] (0, 0) _ rfl (by refine sqt ?_; refine blk_put (cs := #[.int .i64 0, .slice none 0 0]) ?_ 1 _ rfl; refine sqt ?_; refine blk_put (cs := #[.int .i64 0, .slice none 0 0]) ?_ 0 _ rfl; refine sqt ?_; exact BK142.out) Try.underlying41 rfl (by kernel_rfl)) rfl ?_
    exact ⟨_, by first | rfl | (simp [errW_none, errW_some] <;> rfl) | (simp [*, errW_none, errW_some] <;> rfl), by first | exact Kd.R_nil _ _ _ _ _ | exact Kd.N_nil _ _ _ _ _ | exact Kd.V_nil _ _ _ _ _ | exact Kd.Q_nil _ _ _ _ _ | exact Kd.S_nil _ _ _ _ _, by repeat (first | (with_reducible first | exact HB.out | apply below_alloc | apply pw_below_drewN | apply below_drew1 | refine below_set ?_ GE141.out | refine below_set ?_ GE142.out) | exact HB.out)⟩

end Go.Proofs.Ytkekcenlleebeaa.PFnGapsBack
