/- Functions of the program as plain Lean functions, and that calls of them come to what these tell. Conditions: those in each law. -/
import Derived.Test.YtmdcgkkkfncieaaSq
import Derived.Test.YtmdcgkkkfncieaaDFnExactGapsWiden
import Derived.Test.YtmdcgkkkfncieaaQFnExactGapsWidenx0
import Derived.Test.YtmdcgkkkfncieaaQFnExactGapsWidenx1
namespace Go.Proofs.Ytmdcgkkkfncieaa.PFnExactGapsWiden
open Go.RowKit Go.Proofs.Ytmdcgkkkfncieaa.Sq Go.Proofs.YtmdcgkkkfncieaaW.PrintWords Go.Proofs.YtmdcgkkkfncieaaW.PrintLast Go.Proofs.YtmdcgkkkfncieaaW.PrintMore
attribute [local go_sem] max2_int min2_int max_two min_two max_three min_three max_four min_four   -- for this text's walks alone
set_option linter.unusedVariables false
set_option linter.unusedSimpArgs false

/-! ### spec_l11Two: function 77 -/
theorem spec_l11Two.mono : ∀ a0 a1 a2 a3 k, LeO (spec_l11Two.f k a0 a1 a2 a3) (spec_l11Two.f (k + 1) a0 a1 a2 a3) := by
  intro a0 a1 a2 a3 k
  unfold spec_l11Two.f
  repeat' first
      | (with_reducible exact spec_GapsOk.mono _ _ _)
      | (with_reducible exact LeO.refl _)
      | (with_reducible exact LeO.none _)
      | (with_reducible refine LeO.ite ?_ ?_)
      | (with_reducible refine LeO.bind ?_ (fun _ => ?_))
      | exact spec_GapsOk.mono _ _ _
      | exact LeO.none _
      | refine LeO.ite ?_ ?_
      | refine LeO.bind ?_ (fun _ => ?_)
set_option maxHeartbeats 8000000 in
set_option maxRecDepth 100000 in
theorem spec_l11Two.calls (k : Nat) (a0_0 : Int) (A0_1 : Option Addr) (c0_1 : Nat) (l0_1 : List Int) (a1_0 : Int) (A1_1 : Option Addr) (c1_1 : Nat) (l1_1 : List Int) (r : Bool) (w : World) (hr0_1 : Kd.C (Kd.int .i64) w A0_1 l0_1.length l0_1) (hc0_1 : l0_1.length ≤ c0_1) (hr1_1 : Kd.C (Kd.int .i64) w A1_1 l1_1.length l1_1) (hc1_1 : l1_1.length ≤ c1_1) (h : spec_l11Two.f k a0_0 l0_1 a1_0 l1_1 = some r) :
    Calls Try.prog 77 #[.agg #[.int .i64 a0_0, .slice A0_1 l0_1.length c0_1], .agg #[.int .i64 a1_0, .slice A1_1 l1_1.length c1_1]] w fun e w' => e = .returned (.bool r) ∧ Below w.heap.size w w' := by
  have hu29 := Try.underlying29
  have HR0_1 := Aside0.mk hr0_1
  have HC0_1 := Aside0.mk hc0_1
  clear hr0_1 hc0_1
  have HR1_1 := Aside0.mk hr1_1
  have HC1_1 := Aside0.mk hc1_1
  clear hr1_1 hc1_1
  have HB := Aside0.mk (Below.refl w.heap.size w)
  have H : ((spec_GapsOk.f k a0_0 l0_1).bind fun t127 => (if t127 = true then ((spec_GapsOk.f k a1_0 l1_1).bind fun t128 => (if t128 = true then (some (a0_0 == a1_0)) else (some false))) else (some false))) = some r := h
  clear h
  replace H := Option.bind_eq_some_iff.mp H
  obtain ⟨t127, A30, H⟩ := H
  replace H : (if t127 = true then ((spec_GapsOk.f k a1_0 l1_1).bind fun t128 => (if t128 = true then (some (a0_0 == a1_0)) else (some false))) else (some false)) = some r := H
  have A3 := Aside0.mk A30
  clear A30
  by_cases c4 : t127 = true
  · subst c4
    have H1 : ((spec_GapsOk.f k a1_0 l1_1).bind fun t128 => (if t128 = true then (some (a0_0 == a1_0)) else (some false))) = some r := by rw [if_pos rfl] at H; exact H
    clear H
    have H := H1
    clear H1
    replace H := Option.bind_eq_some_iff.mp H
    obtain ⟨t128, A50, H⟩ := H
    replace H : (if t128 = true then (some (a0_0 == a1_0)) else (some false)) = some r := H
    have A5 := Aside0.mk A50
    clear A50
    by_cases c6 : t128 = true
    · subst c6
      have H1 : (some (a0_0 == a1_0)) = some r := by rw [if_pos rfl] at H; exact H
      clear H
      have H := H1
      clear H1
      obtain rfl := Option.some.inj H
      go_enter Try.func77, Try.ntmps77
      go_wp2_with (first | ((with_reducible refine gate_dst (N := 2) rfl ?_); refine sqx 2 #[.int .i64 a0_0, .slice A0_1 l0_1.length c0_1] 29 ?_; intro gb125 hg w7 hbox hb; have BK125 := Aside0.mk (hbox); have GW125 := sqg HB hg; have GE125 := sqg HB hg; replace HB := sqs HB hb; clear hb hbox hg) | ((with_reducible refine gate_dst (N := 3) rfl ?_); refine sqx 3 #[.int .i64 a1_0, .slice A1_1 l1_1.length c1_1] 29 ?_; intro gb126 hg w8 hbox hb; have BK126 := Aside0.mk (hbox); have GW126 := sqg HB hg; have GE126 := sqg HB hg; have NB125_126 := sqn BK125 hg; have NB126_125 := sqm BK125 hg; replace BK125 := sqb BK125 hb; replace HB := sqs HB hb; clear hb hbox hg; have hnb9 := NB125_126.out; have hnc9 := NB126_125.out; obtain ⟨hcz10_0, hcz10_1, hfz10_0, hfz10_1⟩ := sqc2 BK125) | ((with_reducible refine gate_callee (f := 66) rfl ?_); refine sqL (some 6) Try.func66 #[.agg #[.int .i64 a0_0, .slice A0_1 l0_1.length c0_1]] ?_; (with_reducible refine (spec_GapsOk.calls k a0_0 _ _ l0_1 true _ ?side1 ?side2 A3.out).mono ?_); (case side1 => repeat (first | exact (Kd.C_below HR0_1.out HB.out) | (with_reducible refine Kd.C_alloc ?_ _) | (with_reducible refine Kd.C_drewN ?_ _) | (with_reducible refine Kd.C_drew ?_))); (case side2 => exact HC0_1.out); rintro e w11 ⟨rfl, hb⟩; refine ⟨_, rfl, ?_⟩; replace BK125 := sqb BK125 hb; replace BK126 := sqb BK126 hb; replace HB := sqs HB hb; (try clear hb); obtain ⟨hcz12_0, hcz12_1, hfz12_0, hfz12_1⟩ := sqc2 BK126) | (go_at_call 66; (with_reducible refine (spec_GapsOk.calls k a1_0 _ _ l1_1 true _ ?side1 ?side2 A5.out).mono ?_); (case side1 => repeat (first | exact (Kd.C_below HR1_1.out HB.out) | (with_reducible refine Kd.C_alloc ?_ _) | (with_reducible refine Kd.C_drewN ?_ _) | (with_reducible refine Kd.C_drew ?_))); (case side2 => exact HC1_1.out); rintro e w13 ⟨rfl, hb⟩; replace BK125 := sqb BK125 hb; replace BK126 := sqb BK126 hb; replace HB := sqs HB hb; (try clear hb); obtain ⟨hcz14_0, hcz14_1, hfz14_0, hfz14_1⟩ := sqc2 BK125; obtain ⟨hcz15_0, hcz15_1, hfz15_0, hfz15_1⟩ := sqc2 BK126))
      go_ret
      exact sqe HB
    · replace c6 := Bool.eq_false_iff.mpr c6
      subst c6
      have H1 : (some false) = some r := by rw [if_neg (show ¬ (false = true) by decide)] at H; exact H
      clear H
      have H := H1
      clear H1
      obtain rfl := Option.some.inj H
      go_enter Try.func77, Try.ntmps77
      go_wp2_with (first | ((with_reducible refine gate_dst (N := 2) rfl ?_); refine sqx 2 #[.int .i64 a0_0, .slice A0_1 l0_1.length c0_1] 29 ?_; intro gb125 hg w16 hbox hb; have BK125 := Aside0.mk (hbox); have GW125 := sqg HB hg; have GE125 := sqg HB hg; replace HB := sqs HB hb; clear hb hbox hg) | ((with_reducible refine gate_dst (N := 3) rfl ?_); refine sqx 3 #[.int .i64 a1_0, .slice A1_1 l1_1.length c1_1] 29 ?_; intro gb126 hg w17 hbox hb; have BK126 := Aside0.mk (hbox); have GW126 := sqg HB hg; have GE126 := sqg HB hg; have NB125_126 := sqn BK125 hg; have NB126_125 := sqm BK125 hg; replace BK125 := sqb BK125 hb; replace HB := sqs HB hb; clear hb hbox hg; have hnb18 := NB125_126.out; have hnc18 := NB126_125.out; obtain ⟨hcz19_0, hcz19_1, hfz19_0, hfz19_1⟩ := sqc2 BK125) | ((with_reducible refine gate_callee (f := 66) rfl ?_); refine sqL (some 6) Try.func66 #[.agg #[.int .i64 a0_0, .slice A0_1 l0_1.length c0_1]] ?_; (with_reducible refine (spec_GapsOk.calls k a0_0 _ _ l0_1 true _ ?side1 ?side2 A3.out).mono ?_); (case side1 => repeat (first | exact (Kd.C_below HR0_1.out HB.out) | (with_reducible refine Kd.C_alloc ?_ _) | (with_reducible refine Kd.C_drewN ?_ _) | (with_reducible refine Kd.C_drew ?_))); (case side2 => exact HC0_1.out); rintro e w20 ⟨rfl, hb⟩; refine ⟨_, rfl, ?_⟩; replace BK125 := sqb BK125 hb; replace BK126 := sqb BK126 hb; replace HB := sqs HB hb; (try clear hb); obtain ⟨hcz21_0, hcz21_1, hfz21_0, hfz21_1⟩ := sqc2 BK126) | (go_at_call 66; (with_reducible refine (spec_GapsOk.calls k a1_0 _ _ l1_1 false _ ?side1 ?side2 A5.out).mono ?_); (case side1 => repeat (first | exact (Kd.C_below HR1_1.out HB.out) | (with_reducible refine Kd.C_alloc ?_ _) | (with_reducible refine Kd.C_drewN ?_ _) | (with_reducible refine Kd.C_drew ?_))); (case side2 => exact HC1_1.out); rintro e w22 ⟨rfl, hb⟩; replace BK125 := sqb BK125 hb; replace BK126 := sqb BK126 hb; replace HB := sqs HB hb; (try clear hb)))
      go_ret
      exact sqe HB
  · replace c4 := Bool.eq_false_iff.mpr c4
    subst c4
    have H1 : (some false) = some r := by rw [if_neg (show ¬ (false = true) by decide)] at H; exact H
    clear H
    have H := H1
    clear H1
    obtain rfl := Option.some.inj H
    go_enter Try.func77, Try.ntmps77
    go_wp2_with (first | ((with_reducible refine gate_dst (N := 2) rfl ?_); refine sqx 2 #[.int .i64 a0_0, .slice A0_1 l0_1.length c0_1] 29 ?_; intro gb125 hg w23 hbox hb; have BK125 := Aside0.mk (hbox); have GW125 := sqg HB hg; have GE125 := sqg HB hg; replace HB := sqs HB hb; clear hb hbox hg) | ((with_reducible refine gate_dst (N := 3) rfl ?_); refine sqx 3 #[.int .i64 a1_0, .slice A1_1 l1_1.length c1_1] 29 ?_; intro gb126 hg w24 hbox hb; have BK126 := Aside0.mk (hbox); have GW126 := sqg HB hg; have GE126 := sqg HB hg; have NB125_126 := sqn BK125 hg; have NB126_125 := sqm BK125 hg; replace BK125 := sqb BK125 hb; replace HB := sqs HB hb; clear hb hbox hg; have hnb25 := NB125_126.out; have hnc25 := NB126_125.out; obtain ⟨hcz26_0, hcz26_1, hfz26_0, hfz26_1⟩ := sqc2 BK125) | ((with_reducible refine gate_callee (f := 66) rfl ?_); refine sqL (some 6) Try.func66 #[.agg #[.int .i64 a0_0, .slice A0_1 l0_1.length c0_1]] ?_; (with_reducible refine (spec_GapsOk.calls k a0_0 _ _ l0_1 false _ ?side1 ?side2 A3.out).mono ?_); (case side1 => repeat (first | exact (Kd.C_below HR0_1.out HB.out) | (with_reducible refine Kd.C_alloc ?_ _) | (with_reducible refine Kd.C_drewN ?_ _) | (with_reducible refine Kd.C_drew ?_))); (case side2 => exact HC0_1.out); rintro e w27 ⟨rfl, hb⟩; refine ⟨_, rfl, ?_⟩; replace BK125 := sqb BK125 hb; replace BK126 := sqb BK126 hb; replace HB := sqs HB hb; (try clear hb)))
    go_ret
    exact sqe HB

/-! ### spec_GapsWiden: function 20 -/
theorem spec_GapsWiden.mono_l : ∀ k, (∀ y0 y1 y2 y3 y4 y5 y6, LeO (spec_GapsWiden.l0 k y0 y1 y2 y3 y4 y5 y6) (spec_GapsWiden.l0 (k + 1) y0 y1 y2 y3 y4 y5 y6))
  | 0 => fun _ _ _ _ _ _ _ r h => by simp [spec_GapsWiden.l0] at h
  | k + 1 => by
    have ih0 := spec_GapsWiden.mono_l k
    · intro y0 y1 y2 y3 y4 y5 y6
      unfold spec_GapsWiden.l0
      repeat' first
      | (with_reducible exact ih0 _ _ _ _ _ _ _)
      | (with_reducible exact spec_l11Two.mono _ _ _ _ _)
      | (with_reducible exact LeO.refl _)
      | (with_reducible exact LeO.none _)
      | (with_reducible refine LeO.ite ?_ ?_)
      | (with_reducible refine LeO.bind ?_ (fun _ => ?_))
      | exact ih0 _ _ _ _ _ _ _
      | exact spec_l11Two.mono _ _ _ _ _
      | exact LeO.none _
      | refine LeO.ite ?_ ?_
      | refine LeO.bind ?_ (fun _ => ?_)
theorem spec_GapsWiden.mono : ∀ a0 a1 a2 a3 k, LeO (spec_GapsWiden.f k a0 a1 a2 a3) (spec_GapsWiden.f (k + 1) a0 a1 a2 a3) := by
  intro a0 a1 a2 a3 k
  have ih0 := spec_GapsWiden.mono_l k
  unfold spec_GapsWiden.f
  repeat' first
      | (with_reducible exact ih0 _ _ _ _ _ _ _)
      | (with_reducible exact spec_l11Two.mono _ _ _ _ _)
      | (with_reducible exact LeO.refl _)
      | (with_reducible exact LeO.none _)
      | (with_reducible refine LeO.ite ?_ ?_)
      | (with_reducible refine LeO.bind ?_ (fun _ => ?_))
      | exact ih0 _ _ _ _ _ _ _
      | exact spec_l11Two.mono _ _ _ _ _
      | exact LeO.none _
      | refine LeO.ite ?_ ?_
      | refine LeO.bind ?_ (fun _ => ?_)
set_option maxHeartbeats 8000000 in
set_option maxRecDepth 100000 in
theorem spec_GapsWiden.calls (k : Nat) (a0_0 : Int) (A0_1 : Option Addr) (c0_1 : Nat) (l0_1 : List Int) (a1_0 : Int) (A1_1 : Option Addr) (c1_1 : Nat) (l1_1 : List Int) (r1 : Int) (r2 : List Int) (w : World) (hr0_1 : Kd.C (Kd.int .i64) w A0_1 l0_1.length l0_1) (hc0_1 : l0_1.length ≤ c0_1) (hr1_1 : Kd.C (Kd.int .i64) w A1_1 l1_1.length l1_1) (hc1_1 : l1_1.length ≤ c1_1) (h : spec_GapsWiden.f k a0_0 l0_1 a1_0 l1_1 = some (r1, r2)) :
    Calls Try.prog 20 #[.agg #[.int .i64 a0_0, .slice A0_1 l0_1.length c0_1], .agg #[.int .i64 a1_0, .slice A1_1 l1_1.length c1_1]] w fun e w' => ∃ v1_ : Value, e = .returned (.agg #[.int .i64 r1, v1_]) ∧ Kd.R (Kd.int .i64) 3 w' w.heap.size (fun _ => True) v1_ r2 ∧ Below w.heap.size w w' := by
  have hu29 := Try.underlying29
  have HR0_1 := Aside0.mk hr0_1
  have HC0_1 := Aside0.mk hc0_1
  clear hr0_1 hc0_1
  have HR1_1 := Aside0.mk hr1_1
  have HC1_1 := Aside0.mk hc1_1
  clear hr1_1 hc1_1
  have HB := Aside0.mk (Below.refl w.heap.size w)
  have H : ((spec_l11Two.f k a0_0 l0_1 a1_0 l1_1).bind fun t132 => (if t132 = true then (spec_GapsWiden.l0 k 0 a0_0 l0_1 a1_0 l1_1 a0_0 ([] : List Int)) else (some (0, ([] : List Int))))) = some (r1, r2) := h
  clear h
  replace H := Option.bind_eq_some_iff.mp H
  obtain ⟨t132, A30, H⟩ := H
  replace H : (if t132 = true then (spec_GapsWiden.l0 k 0 a0_0 l0_1 a1_0 l1_1 a0_0 ([] : List Int)) else (some (0, ([] : List Int)))) = some (r1, r2) := H
  have A3 := Aside0.mk A30
  clear A30
  by_cases c4 : t132 = true
  · subst c4
    have H1 : (spec_GapsWiden.l0 k 0 a0_0 l0_1 a1_0 l1_1 a0_0 ([] : List Int)) = some (r1, r2) := by rw [if_pos rfl] at H; exact H
    clear H
    have H := H1
    clear H1
    have H' := Aside0.mk H
    clear H
    go_enter Try.func20, Try.ntmps20
    go_wp2_with (first | ((with_reducible refine gate_dst (N := 2) rfl ?_); refine sqx 2 #[.int .i64 a0_0, .slice A0_1 l0_1.length c0_1] 29 ?_; intro gb129 hg w5 hbox hb; have BK129 := Aside0.mk (hbox); have GW129 := sqg HB hg; have GE129 := sqg HB hg; replace HB := sqs HB hb; clear hb hbox hg) | ((with_reducible refine gate_dst (N := 3) rfl ?_); refine sqx 3 #[.int .i64 a1_0, .slice A1_1 l1_1.length c1_1] 29 ?_; intro gb130 hg w6 hbox hb; have BK130 := Aside0.mk (hbox); have GW130 := sqg HB hg; have GE130 := sqg HB hg; have NB129_130 := sqn BK129 hg; have NB130_129 := sqm BK129 hg; replace BK129 := sqb BK129 hb; replace HB := sqs HB hb; clear hb hbox hg) | ((with_reducible refine gate_dst (N := 4) rfl ?_); refine sqx 4 #[.int .i64 0, .slice none 0 0] 29 ?_; intro gb131 hg w7 hbox hb; have BK131 := Aside0.mk (hbox); have GW131 := sqg HB hg; have GE131 := sqg HB hg; have NB129_131 := sqn BK129 hg; have NB131_129 := sqm BK129 hg; have NB130_131 := sqn BK130 hg; have NB131_130 := sqm BK130 hg; replace BK129 := sqb BK129 hb; replace BK130 := sqb BK130 hb; replace HB := sqs HB hb; clear hb hbox hg; have hnb8 := NB129_130.out; have hnc8 := NB130_129.out; have hnb9 := NB129_131.out; have hnc9 := NB131_129.out; obtain ⟨hcz10_0, hcz10_1, hfz10_0, hfz10_1⟩ := sqc2 BK129; have hnb11 := NB130_131.out; have hnc11 := NB131_130.out; obtain ⟨hcz12_0, hcz12_1, hfz12_0, hfz12_1⟩ := sqc2 BK130) | ((with_reducible refine gate_callee (f := 77) rfl ?_); refine sqL (some 10) Try.func77 #[.agg #[.int .i64 a0_0, .slice A0_1 l0_1.length c0_1], .agg #[.int .i64 a1_0, .slice A1_1 l1_1.length c1_1]] ?_; (with_reducible refine (spec_l11Two.calls k a0_0 _ _ l0_1 a1_0 _ _ l1_1 true _ ?side1 ?side2 ?side3 ?side4 A3.out).mono ?_); (case side1 => repeat (first | exact (Kd.C_below HR0_1.out HB.out) | (with_reducible refine Kd.C_alloc ?_ _) | (with_reducible refine Kd.C_drewN ?_ _) | (with_reducible refine Kd.C_drew ?_))); (case side2 => exact HC0_1.out); (case side3 => repeat (first | exact (Kd.C_below HR1_1.out HB.out) | (with_reducible refine Kd.C_alloc ?_ _) | (with_reducible refine Kd.C_drewN ?_ _) | (with_reducible refine Kd.C_drew ?_))); (case side4 => exact HC1_1.out); rintro e w13 ⟨rfl, hb⟩; refine ⟨_, rfl, ?_⟩; replace BK129 := sqb BK129 hb; replace BK130 := sqb BK130 hb; replace BK131 := sqb BK131 hb; replace HB := sqs HB hb; (try clear hb); obtain ⟨hcz14_0, hcz14_1, hfz14_0, hfz14_1⟩ := sqc2 BK129) | ((with_reducible refine gate_dst (N := 5) rfl ?_); refine sqx 5 #[.int .i64 0, .slice none 0 0] 29 ?_; intro gb133 hg w15 hbox hb; have BK133 := Aside0.mk (hbox); have GW133 := sqg HB hg; have GE133 := sqg HB hg; have NB129_133 := sqn BK129 hg; have NB133_129 := sqm BK129 hg; have NB130_133 := sqn BK130 hg; have NB133_130 := sqm BK130 hg; have NB131_133 := sqn BK131 hg; have NB133_131 := sqm BK131 hg; replace BK129 := sqb BK129 hb; replace BK130 := sqb BK130 hb; replace BK131 := sqb BK131 hb; replace HB := sqs HB hb; clear hb hbox hg; have hnb16 := NB133_129.out; have hnc16 := NB129_133.out; have hnb17 := NB133_130.out; have hnc17 := NB130_133.out; have hnb18 := NB133_131.out; have hnc18 := NB131_133.out; obtain ⟨hcz19_0, hcz19_1, hfz19_0, hfz19_1⟩ := sqc2 BK133))
    go_loopg [6] k (fun kq v6 w' => ∃ (x6_1 : Int) (x134001_1 : List Int) (u134001 : Value), v6 = .int .i64 x6_1 ∧ Aside0 (spec_GapsWiden.l0 kq x6_1 a0_0 l0_1 a1_0 l1_1 a0_0 x134001_1 = some (r1, r2)) ∧ Aside0 (kq ≤ k) ∧ Aside0 (Kd.R (Kd.int .i64) 3 w' w.heap.size (fun _ => True) u134001 x134001_1) ∧ Aside0 (w'.heap[gb129]? = some (.cells #[.int .i64 a0_0, (.slice A0_1 l0_1.length c0_1)] 29 (0, 0))) ∧ Aside0 (w'.heap[gb130]? = some (.cells #[.int .i64 a1_0, (.slice A1_1 l1_1.length c1_1)] 29 (0, 0))) ∧ Aside0 (w'.heap[gb131]? = some (.cells #[.int .i64 0, (.slice none 0 0)] 29 (0, 0))) ∧ Aside0 (w'.heap[gb133]? = some (.cells #[.int .i64 a0_0, u134001] 29 (0, 0))) ∧ Aside0 (Below w.heap.size w w'))
    case atStart => exact ⟨(0), (([] : List Int)), (.slice none 0 0), (by first | rfl | (simp; done) | (simp [*]; done)), H', ⟨Nat.le_refl _⟩, ⟨by first | exact Kd.R_nil _ _ _ _ _ | exact Kd.N_nil _ _ _ _ _ | exact Kd.V_nil _ _ _ _ _ | exact Kd.Q_nil _ _ _ _ _ | exact Kd.S_nil _ _ _ _ _⟩, ⟨by refine sqt ?_; refine blk_far ?_ NB129_133.out _; refine sqt ?_; refine blk_far ?_ NB129_133.out _; refine sqt ?_; exact BK129.out⟩, ⟨by refine sqt ?_; refine blk_far ?_ NB130_133.out _; refine sqt ?_; refine blk_far ?_ NB130_133.out _; refine sqt ?_; exact BK130.out⟩, ⟨by refine sqt ?_; refine blk_far ?_ NB131_133.out _; refine sqt ?_; refine blk_far ?_ NB131_133.out _; refine sqt ?_; exact BK131.out⟩, ⟨by refine sqt ?_; refine blk_put (cs := #[.int .i64 a0_0, .slice none 0 0]) ?_ 1 _ rfl; refine sqt ?_; refine blk_put (cs := #[.int .i64 0, .slice none 0 0]) ?_ 0 _ rfl; refine sqt ?_; exact BK133.out⟩, sqh HB⟩
    case round =>
      clear H'
      try clear c1
      try clear c2
      try clear p2
      try clear c4
      try clear c7
      try clear c8
      try clear c9
      try clear c11
      try clear c16
      try clear c17
      try clear c18
      try clear hcz10_0
      try clear hcz10_1
      try clear hcz12_0
      try clear hcz12_1
      try clear hcz14_0
      try clear hcz14_1
      try clear hcz19_0
      try clear hcz19_1
      try clear hfz10_0
      try clear hfz10_1
      try clear hfz12_0
      try clear hfz12_1
      try clear hfz14_0
      try clear hfz14_1
      try clear hfz19_0
      try clear hfz19_1
      obtain ⟨x6_1, x134001_1, u134001, rfl, HA, HK1, HO_134001, BK129, BK130, BK131, BK133, HB⟩ := hrel
      cases gk with
      | zero => exact absurd HA.out (by simp [spec_GapsWiden.l0])
      | succ k1 =>
        have H := HA.out
        clear HA
        simp only [spec_GapsWiden.l0] at H
        by_cases c20 : x6_1 < (l0_1.length : Int)
        · rw [if_pos c20] at H
          have c20b0 : decide (x6_1 < (l0_1.length : Int)) = true := decide_eq_true c20
          clear c20
          by_cases c21 : 0 ≤ x6_1
          · rw [if_pos c21] at H
            have c21b0 : decide (0 ≤ x6_1) = true := decide_eq_true c21
            clear c21
            by_cases c22 : x6_1 < (l1_1.length : Int)
            · rw [if_pos c22] at H
              have c22b0 : decide (x6_1 < (l1_1.length : Int)) = true := decide_eq_true c22
              clear c22
              by_cases c23 : (rd l1_1 x6_1) > (rd l0_1 x6_1)
              · rw [if_pos c23] at H
                have c23b0 : decide ((rd l0_1 x6_1) < (rd l1_1 x6_1)) = true := decide_eq_true c23
                clear c23
                by_cases c24 : x134001_1.length < 17592186044416
                · rw [if_pos c24] at H
                  have LMc24 := Aside0.mk c24
                  clear c24
                  obtain ⟨y136, hy136⟩ : ∃ y_ : List Int, y_ = (x134001_1 ++ [1099511627776]) := ⟨_, rfl⟩
                  replace H : (spec_GapsWiden.l0 k1 (wrap64 (x6_1 + 1)) a0_0 l0_1 a1_0 l1_1 a0_0 y136) = some (r1, r2) := by first | (rw [hy136]; with_reducible exact H) | (have H2_ := (Option.bind_some _ _).symm.trans H; rw [hy136]; with_reducible exact H2_) | (have H2_ := (Option.bind_some _ _).symm.trans H; with_reducible exact H2_) | with_reducible exact H | (rw [hy136]; exact H) | exact H
                  have Ny136 := Aside0.mk hy136
                  clear hy136
                  have H' := Aside0.mk H
                  clear H
                  have hnb25 := NB129_130.out
                  have hnc25 := NB130_129.out
                  have hnb26 := NB129_131.out
                  have hnc26 := NB131_129.out
                  have hnb27 := NB129_133.out
                  have hnc27 := NB133_129.out
                  obtain ⟨hcz28_0, hcz28_1, hfz28_0, hfz28_1⟩ := sqc2 BK129
                  have p134 : 0 ≤ (x6_1 : Int) := of_decide_eq_true (by first | (with_reducible assumption) | assumption)
                  have q134 : x6_1 < (l0_1.length : Int) := of_decide_eq_true (by first | (with_reducible assumption) | assumption)
                  obtain ⟨ad134, e134, hx134_0⟩ := Kd.at_int HR0_1.out x6_1 p134 q134
                  cases e134
                  replace hx134_0 := (HB.out.cell (World.block_lt_of_cell? w _ hx134_0)).trans hx134_0
                  replace p134 := eq_true p134
                  replace q134 := eq_true q134
                  have hnb29 := NB130_131.out
                  have hnc29 := NB131_130.out
                  have hnb30 := NB130_133.out
                  have hnc30 := NB133_130.out
                  obtain ⟨hcz31_0, hcz31_1, hfz31_0, hfz31_1⟩ := sqc2 BK130
                  have p135 : 0 ≤ (x6_1 : Int) := of_decide_eq_true (by first | (with_reducible assumption) | assumption)
                  have q135 : x6_1 < (l1_1.length : Int) := of_decide_eq_true (by first | (with_reducible assumption) | assumption)
                  obtain ⟨ad135, e135, hx135_0⟩ := Kd.at_int HR1_1.out x6_1 p135 q135
                  cases e135
                  replace hx135_0 := (HB.out.cell (World.block_lt_of_cell? w _ hx135_0)).trans hx135_0
                  replace p135 := eq_true p135
                  replace q135 := eq_true q135
                  have hnb32 := NB133_131.out
                  have hnc32 := NB131_133.out
                  obtain ⟨hcz33_0, hcz33_1, hfz33_0, hfz33_1⟩ := sqc2 BK133
                  go_wp2_with (first | ((with_reducible refine gate_builtin (b := .append) (xs := #[.tmp 36, .tmp 38]) rfl ?_); at_builtin; refine Kd.R_append (Kd.int .i64) (w0 := w) w.heap.size rfl (.tmp 36) (.tmp 38) 22 3 (.int .i64 0) 8 rfl Try.underlying22 info3 rfl (by decide) (by omega) u134001 x134001_1 1099511627776 [.int .i64 1099511627776] (fun _ => True) (fun _ => False) rfl rfl ?aP (fun _ hk => hk.elim) ?aF ?aO ?aB ?aS ?aL ?_; (case aP => exact rfl); (case aB => exact (by repeat (first | (with_reducible first | exact HB.out | apply below_alloc | apply pw_below_drewN | apply below_drew1 | refine below_set ?_ GE129.out | refine below_set ?_ GE130.out | refine below_set ?_ GE131.out | refine below_set ?_ GE133.out) | exact HB.out))); (case aF => exact (fun _ _ => trivial)); (case aO => exact (by (with_reducible repeat (first | apply Kd.R_alloc | apply Kd.R_drewN | apply Kd.R_drew)); exact HO_134001.out)); (case aS => exact (below_size (by repeat (first | (with_reducible first | exact HB.out | apply below_alloc | apply pw_below_drewN | apply below_drew1 | refine below_set ?_ GE129.out | refine below_set ?_ GE130.out | refine below_set ?_ GE131.out | refine below_set ?_ GE133.out) | exact HB.out)))); (case aL => have := LMc24.out; omega); intro v137 w34 ho hb hg hat; rw [← Ny136.out] at ho; have n0_ := Aside0.mk (blk_grown (g := gb129) (o := .cells #[.int .i64 a0_0, .slice (some ad134) l0_1.length c0_1] 29 (0, 0)) (by refine sqt ?_; exact BK129.out) hg (Kd.R_ne HO_134001.out BK129.out (by decide))); have n1_ := Aside0.mk (blk_grown (g := gb130) (o := .cells #[.int .i64 a1_0, .slice (some ad135) l1_1.length c1_1] 29 (0, 0)) (by refine sqt ?_; exact BK130.out) hg (Kd.R_ne HO_134001.out BK130.out (by decide))); have n2_ := Aside0.mk (blk_grown (g := gb131) (o := .cells #[.int .i64 0, .slice none 0 0] 29 (0, 0)) (by refine sqt ?_; exact BK131.out) hg (Kd.R_ne HO_134001.out BK131.out (by decide))); have n3_ := Aside0.mk (blk_grown (g := gb133) (o := .cells #[.int .i64 a0_0, u134001] 29 (0, 0)) (by refine sqt ?_; exact BK133.out) hg (Kd.R_ne HO_134001.out BK133.out (by decide))); have n4_ := Aside0.mk (hb); have n5_ := Aside0.mk (ho); clear BK129; clear BK130; clear BK131; clear BK133; clear HB; clear HO_134001; have BK129 := n0_; have BK130 := n1_; have BK131 := n2_; have BK133 := n3_; have HB := n4_; have HO138 := n5_; clear n0_ n1_ n2_ n3_ n4_ n5_; clear ho hb hg hat; obtain ⟨Ao35, co35, eo35⟩ := Kd.R_slice HO138.out; subst eo35; obtain ⟨hcz36_0, hcz36_1, hfz36_0, hfz36_1⟩ := sqc2 BK133))
                  go_roundg k1
                  case measure => have := HK1.out; omega
                  case rel => exact ⟨(wrap64 (x6_1 + 1)), (y136), (.slice Ao35 y136.length co35), (by first | rfl | (simp; done) | (simp [*]; done)), H', ⟨by have := HK1.out; omega⟩, ⟨by (with_reducible repeat (first | apply Kd.R_alloc | apply Kd.R_drewN | apply Kd.R_drew)); exact Kd.R_mono (Kd.R_far (p := ⟨gb133, 1, none⟩) (Kd.R_types HO138.out BK133.out (by decide)) (fun _ hk => hk.2) (.slice Ao35 y136.length co35)) (fun _ hk => trivial)⟩, ⟨by refine sqt ?_; refine blk_far ?_ NB129_133.out _; refine sqt ?_; exact BK129.out⟩, ⟨by refine sqt ?_; refine blk_far ?_ NB130_133.out _; refine sqt ?_; exact BK130.out⟩, ⟨by refine sqt ?_; refine blk_far ?_ NB131_133.out _; refine sqt ?_; exact BK131.out⟩, ⟨by refine sqt ?_; refine blk_put (cs := #[.int .i64 a0_0, u134001]) ?_ 1 _ rfl; refine sqt ?_; exact BK133.out⟩, sqh HB⟩
                · rw [if_neg c24] at H
                  exact absurd H (by simp)
              · rw [if_neg c23] at H
                have c23b0 : decide ((rd l0_1 x6_1) < (rd l1_1 x6_1)) = false := decide_eq_false c23
                clear c23
                by_cases c37 : x134001_1.length < 17592186044416
                · rw [if_pos c37] at H
                  have LMc37 := Aside0.mk c37
                  clear c37
                  obtain ⟨y139, hy139⟩ : ∃ y_ : List Int, y_ = (x134001_1 ++ [rd l0_1 x6_1]) := ⟨_, rfl⟩
                  replace H : (spec_GapsWiden.l0 k1 (wrap64 (x6_1 + 1)) a0_0 l0_1 a1_0 l1_1 a0_0 y139) = some (r1, r2) := by first | (rw [hy139]; with_reducible exact H) | (have H2_ := (Option.bind_some _ _).symm.trans H; rw [hy139]; with_reducible exact H2_) | (have H2_ := (Option.bind_some _ _).symm.trans H; with_reducible exact H2_) | with_reducible exact H | (rw [hy139]; exact H) | exact H
                  have Ny139 := Aside0.mk hy139
                  clear hy139
                  have H' := Aside0.mk H
                  clear H
                  have hnb38 := NB129_130.out
                  have hnc38 := NB130_129.out
                  have hnb39 := NB129_131.out
                  have hnc39 := NB131_129.out
                  have hnb40 := NB129_133.out
                  have hnc40 := NB133_129.out
                  obtain ⟨hcz41_0, hcz41_1, hfz41_0, hfz41_1⟩ := sqc2 BK129
                  have p134 : 0 ≤ (x6_1 : Int) := of_decide_eq_true (by first | (with_reducible assumption) | assumption)
                  have q134 : x6_1 < (l0_1.length : Int) := of_decide_eq_true (by first | (with_reducible assumption) | assumption)
                  obtain ⟨ad134, e134, hx134_0⟩ := Kd.at_int HR0_1.out x6_1 p134 q134
                  cases e134
                  replace hx134_0 := (HB.out.cell (World.block_lt_of_cell? w _ hx134_0)).trans hx134_0
                  replace p134 := eq_true p134
                  replace q134 := eq_true q134
                  have hnb42 := NB130_131.out
                  have hnc42 := NB131_130.out
                  have hnb43 := NB130_133.out
                  have hnc43 := NB133_130.out
                  obtain ⟨hcz44_0, hcz44_1, hfz44_0, hfz44_1⟩ := sqc2 BK130
                  have p135 : 0 ≤ (x6_1 : Int) := of_decide_eq_true (by first | (with_reducible assumption) | assumption)
                  have q135 : x6_1 < (l1_1.length : Int) := of_decide_eq_true (by first | (with_reducible assumption) | assumption)
                  obtain ⟨ad135, e135, hx135_0⟩ := Kd.at_int HR1_1.out x6_1 p135 q135
                  cases e135
                  replace hx135_0 := (HB.out.cell (World.block_lt_of_cell? w _ hx135_0)).trans hx135_0
                  replace p135 := eq_true p135
                  replace q135 := eq_true q135
                  have hnb45 := NB133_131.out
                  have hnc45 := NB131_133.out
                  obtain ⟨hcz46_0, hcz46_1, hfz46_0, hfz46_1⟩ := sqc2 BK133
                  go_wp2_with (first | ((with_reducible refine gate_builtin (b := .append) (xs := #[.tmp 36, .tmp 38]) rfl ?_); at_builtin; refine Kd.R_append (Kd.int .i64) (w0 := w) w.heap.size rfl (.tmp 36) (.tmp 38) 22 3 (.int .i64 0) 8 rfl Try.underlying22 info3 rfl (by decide) (by omega) u134001 x134001_1 (rd l0_1 x6_1) [.int .i64 (rd l0_1 x6_1)] (fun _ => True) (fun _ => False) rfl rfl ?aP (fun _ hk => hk.elim) ?aF ?aO ?aB ?aS ?aL ?_; (case aP => exact rfl); (case aB => exact (by repeat (first | (with_reducible first | exact HB.out | apply below_alloc | apply pw_below_drewN | apply below_drew1 | refine below_set ?_ GE129.out | refine below_set ?_ GE130.out | refine below_set ?_ GE131.out | refine below_set ?_ GE133.out) | exact HB.out))); (case aF => exact (fun _ _ => trivial)); (case aO => exact (by (with_reducible repeat (first | apply Kd.R_alloc | apply Kd.R_drewN | apply Kd.R_drew)); exact HO_134001.out)); (case aS => exact (below_size (by repeat (first | (with_reducible first | exact HB.out | apply below_alloc | apply pw_below_drewN | apply below_drew1 | refine below_set ?_ GE129.out | refine below_set ?_ GE130.out | refine below_set ?_ GE131.out | refine below_set ?_ GE133.out) | exact HB.out)))); (case aL => have := LMc37.out; omega); intro v140 w47 ho hb hg hat; rw [← Ny139.out] at ho; have n0_ := Aside0.mk (blk_grown (g := gb129) (o := .cells #[.int .i64 a0_0, .slice (some ad134) l0_1.length c0_1] 29 (0, 0)) (by refine sqt ?_; exact BK129.out) hg (Kd.R_ne HO_134001.out BK129.out (by decide))); have n1_ := Aside0.mk (blk_grown (g := gb130) (o := .cells #[.int .i64 a1_0, .slice (some ad135) l1_1.length c1_1] 29 (0, 0)) (by refine sqt ?_; exact BK130.out) hg (Kd.R_ne HO_134001.out BK130.out (by decide))); have n2_ := Aside0.mk (blk_grown (g := gb131) (o := .cells #[.int .i64 0, .slice none 0 0] 29 (0, 0)) (by refine sqt ?_; exact BK131.out) hg (Kd.R_ne HO_134001.out BK131.out (by decide))); have n3_ := Aside0.mk (blk_grown (g := gb133) (o := .cells #[.int .i64 a0_0, u134001] 29 (0, 0)) (by refine sqt ?_; exact BK133.out) hg (Kd.R_ne HO_134001.out BK133.out (by decide))); have n4_ := Aside0.mk (hb); have n5_ := Aside0.mk (ho); clear BK129; clear BK130; clear BK131; clear BK133; clear HB; clear HO_134001; have BK129 := n0_; have BK130 := n1_; have BK131 := n2_; have BK133 := n3_; have HB := n4_; have HO141 := n5_; clear n0_ n1_ n2_ n3_ n4_ n5_; clear ho hb hg hat; obtain ⟨Ao48, co48, eo48⟩ := Kd.R_slice HO141.out; subst eo48; obtain ⟨hcz49_0, hcz49_1, hfz49_0, hfz49_1⟩ := sqc2 BK133))
                  go_roundg k1
                  case measure => have := HK1.out; omega
                  case rel => exact ⟨(wrap64 (x6_1 + 1)), (y139), (.slice Ao48 y139.length co48), (by first | rfl | (simp; done) | (simp [*]; done)), H', ⟨by have := HK1.out; omega⟩, ⟨by (with_reducible repeat (first | apply Kd.R_alloc | apply Kd.R_drewN | apply Kd.R_drew)); exact Kd.R_mono (Kd.R_far (p := ⟨gb133, 1, none⟩) (Kd.R_types HO141.out BK133.out (by decide)) (fun _ hk => hk.2) (.slice Ao48 y139.length co48)) (fun _ hk => trivial)⟩, ⟨by refine sqt ?_; refine blk_far ?_ NB129_133.out _; refine sqt ?_; exact BK129.out⟩, ⟨by refine sqt ?_; refine blk_far ?_ NB130_133.out _; refine sqt ?_; exact BK130.out⟩, ⟨by refine sqt ?_; refine blk_far ?_ NB131_133.out _; refine sqt ?_; exact BK131.out⟩, ⟨by refine sqt ?_; refine blk_put (cs := #[.int .i64 a0_0, u134001]) ?_ 1 _ rfl; refine sqt ?_; exact BK133.out⟩, sqh HB⟩
                · rw [if_neg c37] at H
                  exact absurd H (by simp)
            · rw [if_neg c22] at H
              exact absurd H (by simp)
          · rw [if_neg c21] at H
            exact absurd H (by simp)
        · rw [if_neg c20] at H
          have c20b0 : decide (x6_1 < (l0_1.length : Int)) = false := decide_eq_false c20
          clear c20
          simp only [Option.some.injEq, Prod.mk.injEq] at H
          obtain ⟨rfl, rfl⟩ := H
          have hnb50 := NB129_130.out
          have hnc50 := NB130_129.out
          have hnb51 := NB129_131.out
          have hnc51 := NB131_129.out
          have hnb52 := NB129_133.out
          have hnc52 := NB133_129.out
          obtain ⟨hcz53_0, hcz53_1, hfz53_0, hfz53_1⟩ := sqc2 BK129
          have hnb54 := NB133_130.out
          have hnc54 := NB130_133.out
          have hnb55 := NB133_131.out
          have hnc55 := NB131_133.out
          obtain ⟨hcz56_0, hcz56_1, hfz56_0, hfz56_1⟩ := sqc2 BK133
          have hnb57 := NB131_130.out
          have hnc57 := NB130_131.out
          obtain ⟨hcz58_0, hcz58_1, hfz58_0, hfz58_1⟩ := sqc2 BK131
          obtain ⟨Ao59, co59, eo59⟩ := Kd.R_slice HO_134001.out
          subst eo59
          go_wp2
          refine bodyPost_ret (results_cell_row rfl _ _ gb131 29 #[.int .i64 a0_0, .slice Ao59 x134001_1.length co59] (0, 0) _ rfl (by refine sqt ?_; refine blk_put (cs := #[.int .i64 a0_0, .slice none 0 0]) ?_ 1 _ rfl; refine sqt ?_; refine blk_put (cs := #[.int .i64 0, .slice none 0 0]) ?_ 0 _ rfl; refine sqt ?_; exact BK131.out) Try.underlying29 rfl (by kernel_rfl)) rfl ?_
          exact ⟨_, by first | rfl | (simp [errW_none, errW_some] <;> rfl) | (simp [*, errW_none, errW_some] <;> rfl), by (with_reducible repeat (first | apply Kd.R_alloc | apply Kd.R_drewN | apply Kd.R_drew)); exact Kd.R_mono (Kd.R_far (p := ⟨gb131, 1, none⟩) (Kd.R_far (p := ⟨gb131, 0, none⟩) (Kd.R_types HO_134001.out BK131.out (by decide)) (fun _ hk => hk.2) (.int .i64 a0_0)) (fun _ hk => hk.2) (.slice Ao59 x134001_1.length co59)) (fun _ hk => trivial), by repeat (first | (with_reducible first | exact HB.out | apply below_alloc | apply pw_below_drewN | apply below_drew1 | refine below_set ?_ GE129.out | refine below_set ?_ GE130.out | refine below_set ?_ GE131.out | refine below_set ?_ GE133.out) | exact HB.out)⟩
  · replace c4 := Bool.eq_false_iff.mpr c4
    subst c4
    have H1 : (some (0, ([] : List Int))) = some (r1, r2) := by rw [if_neg (show ¬ (false = true) by decide)] at H; exact H
    clear H
    have H := H1
    clear H1
    simp only [Option.some.injEq, Prod.mk.injEq] at H
    obtain ⟨rfl, rfl⟩ := H
    go_enter Try.func20, Try.ntmps20
    go_wp2_with (first | ((with_reducible refine gate_dst (N := 2) rfl ?_); refine sqx 2 #[.int .i64 a0_0, .slice A0_1 l0_1.length c0_1] 29 ?_; intro gb129 hg w60 hbox hb; have BK129 := Aside0.mk (hbox); have GW129 := sqg HB hg; have GE129 := sqg HB hg; replace HB := sqs HB hb; clear hb hbox hg) | ((with_reducible refine gate_dst (N := 3) rfl ?_); refine sqx 3 #[.int .i64 a1_0, .slice A1_1 l1_1.length c1_1] 29 ?_; intro gb130 hg w61 hbox hb; have BK130 := Aside0.mk (hbox); have GW130 := sqg HB hg; have GE130 := sqg HB hg; have NB129_130 := sqn BK129 hg; have NB130_129 := sqm BK129 hg; replace BK129 := sqb BK129 hb; replace HB := sqs HB hb; clear hb hbox hg) | ((with_reducible refine gate_dst (N := 4) rfl ?_); refine sqx 4 #[.int .i64 0, .slice none 0 0] 29 ?_; intro gb131 hg w62 hbox hb; have BK131 := Aside0.mk (hbox); have GW131 := sqg HB hg; have GE131 := sqg HB hg; have NB129_131 := sqn BK129 hg; have NB131_129 := sqm BK129 hg; have NB130_131 := sqn BK130 hg; have NB131_130 := sqm BK130 hg; replace BK129 := sqb BK129 hb; replace BK130 := sqb BK130 hb; replace HB := sqs HB hb; clear hb hbox hg; have hnb63 := NB129_130.out; have hnc63 := NB130_129.out; have hnb64 := NB129_131.out; have hnc64 := NB131_129.out; obtain ⟨hcz65_0, hcz65_1, hfz65_0, hfz65_1⟩ := sqc2 BK129; have hnb66 := NB130_131.out; have hnc66 := NB131_130.out; obtain ⟨hcz67_0, hcz67_1, hfz67_0, hfz67_1⟩ := sqc2 BK130) | ((with_reducible refine gate_callee (f := 77) rfl ?_); refine sqL (some 10) Try.func77 #[.agg #[.int .i64 a0_0, .slice A0_1 l0_1.length c0_1], .agg #[.int .i64 a1_0, .slice A1_1 l1_1.length c1_1]] ?_; (with_reducible refine (spec_l11Two.calls k a0_0 _ _ l0_1 a1_0 _ _ l1_1 false _ ?side1 ?side2 ?side3 ?side4 A3.out).mono ?_); (case side1 => repeat (first | exact (Kd.C_below HR0_1.out HB.out) | (with_reducible refine Kd.C_alloc ?_ _) | (with_reducible refine Kd.C_drewN ?_ _) | (with_reducible refine Kd.C_drew ?_))); (case side2 => exact HC0_1.out); (case side3 => repeat (first | exact (Kd.C_below HR1_1.out HB.out) | (with_reducible refine Kd.C_alloc ?_ _) | (with_reducible refine Kd.C_drewN ?_ _) | (with_reducible refine Kd.C_drew ?_))); (case side4 => exact HC1_1.out); rintro e w68 ⟨rfl, hb⟩; refine ⟨_, rfl, ?_⟩; replace BK129 := sqb BK129 hb; replace BK130 := sqb BK130 hb; replace BK131 := sqb BK131 hb; replace HB := sqs HB hb; (try clear hb); obtain ⟨hcz69_0, hcz69_1, hfz69_0, hfz69_1⟩ := sqc2 BK131))
    refine bodyPost_ret (results_cell_row rfl _ _ gb131 29 #[.int .i64 0, .slice none 0 0] (0, 0) _ rfl (by refine sqt ?_; refine blk_put (cs := #[.int .i64 0, .slice none 0 0]) ?_ 1 _ rfl; refine sqt ?_; refine blk_put (cs := #[.int .i64 0, .slice none 0 0]) ?_ 0 _ rfl; refine sqt ?_; exact BK131.out) Try.underlying29 rfl (by kernel_rfl)) rfl ?_
    exact ⟨_, by first | rfl | (simp [errW_none, errW_some] <;> rfl) | (simp [*, errW_none, errW_some] <;> rfl), by first | exact Kd.R_nil _ _ _ _ _ | exact Kd.N_nil _ _ _ _ _ | exact Kd.V_nil _ _ _ _ _ | exact Kd.Q_nil _ _ _ _ _ | exact Kd.S_nil _ _ _ _ _, by repeat (first | (with_reducible first | exact HB.out | apply below_alloc | apply pw_below_drewN | apply below_drew1 | refine below_set ?_ GE129.out | refine below_set ?_ GE130.out | refine below_set ?_ GE131.out) | exact HB.out)⟩

/-! ### impl_Gaps_at: function 75 -/
set_option maxHeartbeats 8000000 in
set_option maxRecDepth 100000 in
theorem impl_Gaps_at.calls (a0_0 : Int) (A0_1 : Option Addr) (c0_1 : Nat) (l0_1 : List Int) (a1 : Int) (a2 : Int) (r : Int) (w : World) (hr0_1 : Kd.C (Kd.int .i64) w A0_1 l0_1.length l0_1) (hc0_1 : l0_1.length ≤ c0_1) (h : impl_Gaps_at.f a0_0 l0_1 a1 a2 = some r) :
    Calls Try.prog 75 #[.agg #[.int .i64 a0_0, .slice A0_1 l0_1.length c0_1], .int .i64 a1, .int .i64 a2] w fun e w' => e = .returned (.int .i64 r) ∧ Below w.heap.size w w' := by
  have hu29 := Try.underlying29
  have HR0_1 := Aside0.mk hr0_1
  have HC0_1 := Aside0.mk hc0_1
  clear hr0_1 hc0_1
  have HB := Aside0.mk (Below.refl w.heap.size w)
  have H : (some (wrap64 ((wrap64 (a1 * (wrap64 (a0_0 + 1)))) + a2))) = some r := h
  clear h
  obtain rfl := Option.some.inj H
  go_enter Try.func75, Try.ntmps75
  go_wp2_with (first | ((with_reducible refine gate_dst (N := 3) rfl ?_); refine sqx 3 #[.int .i64 a0_0, .slice A0_1 l0_1.length c0_1] 29 ?_; intro gb142 hg w4 hbox hb; have BK142 := Aside0.mk (hbox); have GW142 := sqg HB hg; have GE142 := sqg HB hg; replace HB := sqs HB hb; clear hb hbox hg; obtain ⟨hcz5_0, hcz5_1, hfz5_0, hfz5_1⟩ := sqc2 BK142))
  go_ret
  exact sqe HB

end Go.Proofs.Ytmdcgkkkfncieaa.PFnExactGapsWiden
