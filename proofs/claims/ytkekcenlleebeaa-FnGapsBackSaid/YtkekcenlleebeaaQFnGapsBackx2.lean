/- Functions of the program as plain Lean functions, and that calls of them come to what these tell. Conditions: those in each law. -/
import Derived.Test.YtkekcenlleebeaaSq
import Derived.Test.YtkekcenlleebeaaDFnGapsBack
import Derived.Test.YtkekcenlleebeaaQFnGapsBackx0
import Derived.Test.YtkekcenlleebeaaQFnGapsBackx1
namespace Go.Proofs.Ytkekcenlleebeaa.PFnGapsBack
open Go.RowKit Go.Proofs.Ytkekcenlleebeaa.Sq Go.Proofs.YtkekcenlleebeaaW.PrintWords Go.Proofs.YtkekcenlleebeaaW.PrintLast Go.Proofs.YtkekcenlleebeaaW.PrintMore
attribute [local go_sem] max2_int min2_int max_two min_two max_three min_three max_four min_four   -- for this text's walks alone
set_option linter.unusedVariables false
set_option linter.unusedSimpArgs false

/-! ### impl_GapsClose: function 25 -/
theorem impl_GapsClose.mono_l : ∀ k, (∀ y0 y1 y2 y3 y4, LeO (impl_GapsClose.l0 k y0 y1 y2 y3 y4) (impl_GapsClose.l0 (k + 1) y0 y1 y2 y3 y4)) ∧ (∀ y0 y1 y2 y3 y4 y5 y6 y7, LeO (impl_GapsClose.l1 k y0 y1 y2 y3 y4 y5 y6 y7) (impl_GapsClose.l1 (k + 1) y0 y1 y2 y3 y4 y5 y6 y7)) ∧ (∀ y0 y1 y2 y3 y4 y5 y6 y7 y8 y9 y10, LeO (impl_GapsClose.l2 k y0 y1 y2 y3 y4 y5 y6 y7 y8 y9 y10) (impl_GapsClose.l2 (k + 1) y0 y1 y2 y3 y4 y5 y6 y7 y8 y9 y10)) ∧ (∀ y0 y1 y2 y3 y4 y5 y6, LeO (impl_GapsClose.l3 k y0 y1 y2 y3 y4 y5 y6) (impl_GapsClose.l3 (k + 1) y0 y1 y2 y3 y4 y5 y6)) ∧ (∀ y0 y1 y2 y3 y4, LeO (impl_GapsClose.l4 k y0 y1 y2 y3 y4) (impl_GapsClose.l4 (k + 1) y0 y1 y2 y3 y4))
  | 0 => ⟨fun _ _ _ _ _ r h => by simp [impl_GapsClose.l0] at h, fun _ _ _ _ _ _ _ _ r h => by simp [impl_GapsClose.l1] at h, fun _ _ _ _ _ _ _ _ _ _ _ r h => by simp [impl_GapsClose.l2] at h, fun _ _ _ _ _ _ _ r h => by simp [impl_GapsClose.l3] at h, fun _ _ _ _ _ r h => by simp [impl_GapsClose.l4] at h⟩
  | k + 1 => by
    obtain ⟨ih0, ih1, ih2, ih3, ih4⟩ := impl_GapsClose.mono_l k
    refine ⟨?_, ?_, ?_, ?_, ?_⟩
    · intro y0 y1 y2 y3 y4
      unfold impl_GapsClose.l0
      repeat' first
      | (with_reducible exact ih0 _ _ _ _ _)
      | (with_reducible exact ih1 _ _ _ _ _ _ _ _)
      | (with_reducible exact ih2 _ _ _ _ _ _ _ _ _ _ _)
      | (with_reducible exact ih3 _ _ _ _ _ _ _)
      | (with_reducible exact ih4 _ _ _ _ _)
      | (with_reducible exact impl_GapsOk.mono _ _ _)
      | (with_reducible exact LeO.refl _)
      | (with_reducible exact LeO.none _)
      | (with_reducible refine LeO.ite ?_ ?_)
      | (with_reducible refine LeO.bind ?_ (fun _ => ?_))
      | exact ih0 _ _ _ _ _
      | exact ih1 _ _ _ _ _ _ _ _
      | exact ih2 _ _ _ _ _ _ _ _ _ _ _
      | exact ih3 _ _ _ _ _ _ _
      | exact ih4 _ _ _ _ _
      | exact impl_GapsOk.mono _ _ _
      | exact LeO.none _
      | refine LeO.ite ?_ ?_
      | refine LeO.bind ?_ (fun _ => ?_)
    · intro y0 y1 y2 y3 y4 y5 y6 y7
      unfold impl_GapsClose.l1
      repeat' first
      | (with_reducible exact ih0 _ _ _ _ _)
      | (with_reducible exact ih1 _ _ _ _ _ _ _ _)
      | (with_reducible exact ih2 _ _ _ _ _ _ _ _ _ _ _)
      | (with_reducible exact ih3 _ _ _ _ _ _ _)
      | (with_reducible exact ih4 _ _ _ _ _)
      | (with_reducible exact impl_GapsOk.mono _ _ _)
      | (with_reducible exact LeO.refl _)
      | (with_reducible exact LeO.none _)
      | (with_reducible refine LeO.ite ?_ ?_)
      | (with_reducible refine LeO.bind ?_ (fun _ => ?_))
      | exact ih0 _ _ _ _ _
      | exact ih1 _ _ _ _ _ _ _ _
      | exact ih2 _ _ _ _ _ _ _ _ _ _ _
      | exact ih3 _ _ _ _ _ _ _
      | exact ih4 _ _ _ _ _
      | exact impl_GapsOk.mono _ _ _
      | exact LeO.none _
      | refine LeO.ite ?_ ?_
      | refine LeO.bind ?_ (fun _ => ?_)
    · intro y0 y1 y2 y3 y4 y5 y6 y7 y8 y9 y10
      unfold impl_GapsClose.l2
      repeat' first
      | (with_reducible exact ih0 _ _ _ _ _)
      | (with_reducible exact ih1 _ _ _ _ _ _ _ _)
      | (with_reducible exact ih2 _ _ _ _ _ _ _ _ _ _ _)
      | (with_reducible exact ih3 _ _ _ _ _ _ _)
      | (with_reducible exact ih4 _ _ _ _ _)
      | (with_reducible exact impl_GapsOk.mono _ _ _)
      | (with_reducible exact LeO.refl _)
      | (with_reducible exact LeO.none _)
      | (with_reducible refine LeO.ite ?_ ?_)
      | (with_reducible refine LeO.bind ?_ (fun _ => ?_))
      | exact ih0 _ _ _ _ _
      | exact ih1 _ _ _ _ _ _ _ _
      | exact ih2 _ _ _ _ _ _ _ _ _ _ _
      | exact ih3 _ _ _ _ _ _ _
      | exact ih4 _ _ _ _ _
      | exact impl_GapsOk.mono _ _ _
      | exact LeO.none _
      | refine LeO.ite ?_ ?_
      | refine LeO.bind ?_ (fun _ => ?_)
    · intro y0 y1 y2 y3 y4 y5 y6
      unfold impl_GapsClose.l3
      repeat' first
      | (with_reducible exact ih0 _ _ _ _ _)
      | (with_reducible exact ih1 _ _ _ _ _ _ _ _)
      | (with_reducible exact ih2 _ _ _ _ _ _ _ _ _ _ _)
      | (with_reducible exact ih3 _ _ _ _ _ _ _)
      | (with_reducible exact ih4 _ _ _ _ _)
      | (with_reducible exact impl_GapsOk.mono _ _ _)
      | (with_reducible exact LeO.refl _)
      | (with_reducible exact LeO.none _)
      | (with_reducible refine LeO.ite ?_ ?_)
      | (with_reducible refine LeO.bind ?_ (fun _ => ?_))
      | exact ih0 _ _ _ _ _
      | exact ih1 _ _ _ _ _ _ _ _
      | exact ih2 _ _ _ _ _ _ _ _ _ _ _
      | exact ih3 _ _ _ _ _ _ _
      | exact ih4 _ _ _ _ _
      | exact impl_GapsOk.mono _ _ _
      | exact LeO.none _
      | refine LeO.ite ?_ ?_
      | refine LeO.bind ?_ (fun _ => ?_)
    · intro y0 y1 y2 y3 y4
      unfold impl_GapsClose.l4
      repeat' first
      | (with_reducible exact ih0 _ _ _ _ _)
      | (with_reducible exact ih1 _ _ _ _ _ _ _ _)
      | (with_reducible exact ih2 _ _ _ _ _ _ _ _ _ _ _)
      | (with_reducible exact ih3 _ _ _ _ _ _ _)
      | (with_reducible exact ih4 _ _ _ _ _)
      | (with_reducible exact impl_GapsOk.mono _ _ _)
      | (with_reducible exact LeO.refl _)
      | (with_reducible exact LeO.none _)
      | (with_reducible refine LeO.ite ?_ ?_)
      | (with_reducible refine LeO.bind ?_ (fun _ => ?_))
      | exact ih0 _ _ _ _ _
      | exact ih1 _ _ _ _ _ _ _ _
      | exact ih2 _ _ _ _ _ _ _ _ _ _ _
      | exact ih3 _ _ _ _ _ _ _
      | exact ih4 _ _ _ _ _
      | exact impl_GapsOk.mono _ _ _
      | exact LeO.none _
      | refine LeO.ite ?_ ?_
      | refine LeO.bind ?_ (fun _ => ?_)
theorem impl_GapsClose.mono : ∀ a0 a1 k, LeO (impl_GapsClose.f k a0 a1) (impl_GapsClose.f (k + 1) a0 a1) := by
  intro a0 a1 k
  obtain ⟨ih0, ih1, ih2, ih3, ih4⟩ := impl_GapsClose.mono_l k
  unfold impl_GapsClose.f
  repeat' first
      | (with_reducible exact ih0 _ _ _ _ _)
      | (with_reducible exact ih1 _ _ _ _ _ _ _ _)
      | (with_reducible exact ih2 _ _ _ _ _ _ _ _ _ _ _)
      | (with_reducible exact ih3 _ _ _ _ _ _ _)
      | (with_reducible exact ih4 _ _ _ _ _)
      | (with_reducible exact impl_GapsOk.mono _ _ _)
      | (with_reducible exact LeO.refl _)
      | (with_reducible exact LeO.none _)
      | (with_reducible refine LeO.ite ?_ ?_)
      | (with_reducible refine LeO.bind ?_ (fun _ => ?_))
      | exact ih0 _ _ _ _ _
      | exact ih1 _ _ _ _ _ _ _ _
      | exact ih2 _ _ _ _ _ _ _ _ _ _ _
      | exact ih3 _ _ _ _ _ _ _
      | exact ih4 _ _ _ _ _
      | exact impl_GapsOk.mono _ _ _
      | exact LeO.none _
      | refine LeO.ite ?_ ?_
      | refine LeO.bind ?_ (fun _ => ?_)
set_option maxHeartbeats 8000000 in
set_option maxRecDepth 100000 in
theorem impl_GapsClose.calls (k : Nat) (a0_0 : Int) (A0_1 : Option Addr) (c0_1 : Nat) (l0_1 : List Int) (r1 : Int) (r2 : List Int) (r3 : Bool) (w : World) (hr0_1 : Kd.C (Kd.int .i64) w A0_1 l0_1.length l0_1) (hc0_1 : l0_1.length ≤ c0_1) (h : impl_GapsClose.f k a0_0 l0_1 = some (r1, r2, r3)) :
    Calls Try.prog 25 #[.agg #[.int .i64 a0_0, .slice A0_1 l0_1.length c0_1]] w fun e w' => ∃ v1_ : Value, e = .returned (.tuple #[.agg #[.int .i64 r1, v1_], .bool r3]) ∧ Kd.R (Kd.int .i64) 3 w' w.heap.size (fun _ => True) v1_ r2 ∧ Below w.heap.size w w' := by
  have hu41 := Try.underlying41
  have HR0_1 := Aside0.mk hr0_1
  have HC0_1 := Aside0.mk hc0_1
  clear hr0_1 hc0_1
  have HB := Aside0.mk (Below.refl w.heap.size w)
  have H : ((impl_GapsOk.f k a0_0 l0_1).bind fun t113 => (if t113 = true then ((impl_Gaps_clone.f a0_0 l0_1).bind fun bt114 => (impl_GapsClose.l0 k (wrap64 (bt114.1 + 1)) (wrap64 (bt114.1 + 1)) 0 bt114.1 bt114.2)) else (some (0, ([] : List Int), false)))) = some (r1, r2, r3) := h
  clear h
  replace H := Option.bind_eq_some_iff.mp H
  obtain ⟨t113, A20, H⟩ := H
  replace H : (if t113 = true then ((impl_Gaps_clone.f a0_0 l0_1).bind fun bt114 => (impl_GapsClose.l0 k (wrap64 (bt114.1 + 1)) (wrap64 (bt114.1 + 1)) 0 bt114.1 bt114.2)) else (some (0, ([] : List Int), false))) = some (r1, r2, r3) := H
  have A2 := Aside0.mk A20
  clear A20
  by_cases c3 : t113 = true
  · subst c3
    have H1 : ((impl_Gaps_clone.f a0_0 l0_1).bind fun bt114 => (impl_GapsClose.l0 k (wrap64 (bt114.1 + 1)) (wrap64 (bt114.1 + 1)) 0 bt114.1 bt114.2)) = some (r1, r2, r3) := by rw [if_pos rfl] at H; exact H
    clear H
    have H := H1
    clear H1
    replace H := Option.bind_eq_some_iff.mp H
    obtain ⟨⟨t114, t115⟩, A40, H⟩ := H
    replace H : (impl_GapsClose.l0 k (wrap64 (t114 + 1)) (wrap64 (t114 + 1)) 0 t114 t115) = some (r1, r2, r3) := H
    have A4 := Aside0.mk A40
    clear A40
    have H' := Aside0.mk H
    clear H
    go_enter Try.func25, Try.ntmps25
    go_wp2_with (first | ((with_reducible refine gate_dst (N := 1) rfl ?_); refine sqx 1 #[.int .i64 a0_0, .slice A0_1 l0_1.length c0_1] 41 ?_; intro gb111 hg w5 hbox hb; have BK111 := Aside0.mk (hbox); have GW111 := sqg HB hg; have GE111 := sqg HB hg; replace HB := sqs HB hb; clear hb hbox hg) | ((with_reducible refine gate_dst (N := 2) rfl ?_); refine sqx 2 #[.int .i64 0, .slice none 0 0] 41 ?_; intro gb112 hg w6 hbox hb; have BK112 := Aside0.mk (hbox); have GW112 := sqg HB hg; have GE112 := sqg HB hg; have NB111_112 := sqn BK111 hg; have NB112_111 := sqm BK111 hg; replace BK111 := sqb BK111 hb; replace HB := sqs HB hb; clear hb hbox hg; have hnb7 := NB111_112.out; have hnc7 := NB112_111.out; obtain ⟨hcz8_0, hcz8_1, hfz8_0, hfz8_1⟩ := sqc2 BK111) | (go_at_call 31; (with_reducible refine (impl_GapsOk.calls k a0_0 _ _ l0_1 true _ ?side1 ?side2 A2.out).mono ?_); (case side1 => repeat (first | exact (Kd.C_below HR0_1.out HB.out) | (with_reducible refine Kd.C_alloc ?_ _) | (with_reducible refine Kd.C_drewN ?_ _) | (with_reducible refine Kd.C_drew ?_))); (case side2 => exact HC0_1.out); rintro e w9 ⟨rfl, hb⟩; replace BK111 := sqb BK111 hb; replace BK112 := sqb BK112 hb; replace HB := sqs HB hb; (try clear hb); obtain ⟨hcz10_0, hcz10_1, hfz10_0, hfz10_1⟩ := sqc2 BK111) | (go_at_call 111; (with_reducible refine (impl_Gaps_clone.calls a0_0 _ _ l0_1 t114 t115 _ ?side1 ?side2 A4.out).mono ?_); (case side1 => repeat (first | exact (Kd.C_below HR0_1.out HB.out) | (with_reducible refine Kd.C_alloc ?_ _) | (with_reducible refine Kd.C_drewN ?_ _) | (with_reducible refine Kd.C_drew ?_))); (case side2 => exact HC0_1.out); rintro e w11 ⟨v116, rfl, ho0, hb⟩; have HO117 := Aside0.mk (Kd.R_lower ho0 (below_size (by repeat (first | (with_reducible first | exact HB.out | apply below_alloc | apply pw_below_drewN | apply below_drew1 | refine below_set ?_ GE111.out | refine below_set ?_ GE112.out) | exact HB.out)))); replace BK111 := sqb BK111 hb; replace BK112 := sqb BK112 hb; replace HB := sqs HB hb; (try clear hb); (try clear hb2); (try clear hk); (try clear hi); (try clear ho0)) | ((with_reducible refine gate_dst (N := 4) rfl ?_); refine sqx 4 #[.int .i64 0, .slice none 0 0] 41 ?_; intro gb118 hg w12 hbox hb; have n0_ := Aside0.mk (Kd.R_below (by (with_reducible repeat (first | apply Kd.R_alloc | apply Kd.R_drewN | apply Kd.R_drew)); exact HO117.out) hb); have n1_ := sqb BK111 hb; have n2_ := sqb BK112 hb; have n3_ := sqs HB hb; have n4_ := Aside0.mk (hbox); have n5_ := sqg HB hg; have n6_ := sqg HB hg; have n7_ := sqn BK111 hg; have n8_ := sqm BK111 hg; have n9_ := sqn BK112 hg; have n10_ := sqm BK112 hg; clear HO117; clear BK111; clear BK112; clear HB; have HO117 := n0_; have BK111 := n1_; have BK112 := n2_; have HB := n3_; have BK118 := n4_; have GW118 := n5_; have GE118 := n6_; have NB111_118 := n7_; have NB118_111 := n8_; have NB112_118 := n9_; have NB118_112 := n10_; clear n0_ n1_ n2_ n3_ n4_ n5_ n6_ n7_ n8_ n9_ n10_; clear hb hbox hg; have hnb13 := NB118_111.out; have hnc13 := NB111_118.out; have hnb14 := NB118_112.out; have hnc14 := NB112_118.out; obtain ⟨hcz15_0, hcz15_1, hfz15_0, hfz15_1⟩ := sqc2 BK118; obtain ⟨Ao16, co16, eo16⟩ := Kd.R_slice HO117.out; subst eo16))
    repeat (go_quiet (first | ((with_reducible refine gate_dst (N := 1) rfl ?_); refine sqx 1 #[.int .i64 a0_0, .slice A0_1 l0_1.length c0_1] 41 ?_; intro gb111 hg w5 hbox hb; have BK111 := Aside0.mk (hbox); have GW111 := sqg HB hg; have GE111 := sqg HB hg; replace HB := sqs HB hb; clear hb hbox hg) | ((with_reducible refine gate_dst (N := 2) rfl ?_); refine sqx 2 #[.int .i64 0, .slice none 0 0] 41 ?_; intro gb112 hg w6 hbox hb; have BK112 := Aside0.mk (hbox); have GW112 := sqg HB hg; have GE112 := sqg HB hg; have NB111_112 := sqn BK111 hg; have NB112_111 := sqm BK111 hg; replace BK111 := sqb BK111 hb; replace HB := sqs HB hb; clear hb hbox hg; have hnb7 := NB111_112.out; have hnc7 := NB112_111.out; obtain ⟨hcz8_0, hcz8_1, hfz8_0, hfz8_1⟩ := sqc2 BK111) | (go_at_call 31; (with_reducible refine (impl_GapsOk.calls k a0_0 _ _ l0_1 true _ ?side1 ?side2 A2.out).mono ?_); (case side1 => repeat (first | exact (Kd.C_below HR0_1.out HB.out) | (with_reducible refine Kd.C_alloc ?_ _) | (with_reducible refine Kd.C_drewN ?_ _) | (with_reducible refine Kd.C_drew ?_))); (case side2 => exact HC0_1.out); rintro e w9 ⟨rfl, hb⟩; replace BK111 := sqb BK111 hb; replace BK112 := sqb BK112 hb; replace HB := sqs HB hb; (try clear hb); obtain ⟨hcz10_0, hcz10_1, hfz10_0, hfz10_1⟩ := sqc2 BK111) | (go_at_call 111; (with_reducible refine (impl_Gaps_clone.calls a0_0 _ _ l0_1 t114 t115 _ ?side1 ?side2 A4.out).mono ?_); (case side1 => repeat (first | exact (Kd.C_below HR0_1.out HB.out) | (with_reducible refine Kd.C_alloc ?_ _) | (with_reducible refine Kd.C_drewN ?_ _) | (with_reducible refine Kd.C_drew ?_))); (case side2 => exact HC0_1.out); rintro e w11 ⟨v116, rfl, ho0, hb⟩; have HO117 := Aside0.mk (Kd.R_lower ho0 (below_size (by repeat (first | (with_reducible first | exact HB.out | apply below_alloc | apply pw_below_drewN | apply below_drew1 | refine below_set ?_ GE111.out | refine below_set ?_ GE112.out) | exact HB.out)))); replace BK111 := sqb BK111 hb; replace BK112 := sqb BK112 hb; replace HB := sqs HB hb; (try clear hb); (try clear hb2); (try clear hk); (try clear hi); (try clear ho0)) | ((with_reducible refine gate_dst (N := 4) rfl ?_); refine sqx 4 #[.int .i64 0, .slice none 0 0] 41 ?_; intro gb118 hg w12 hbox hb; have n0_ := Aside0.mk (Kd.R_below (by (with_reducible repeat (first | apply Kd.R_alloc | apply Kd.R_drewN | apply Kd.R_drew)); exact HO117.out) hb); have n1_ := sqb BK111 hb; have n2_ := sqb BK112 hb; have n3_ := sqs HB hb; have n4_ := Aside0.mk (hbox); have n5_ := sqg HB hg; have n6_ := sqg HB hg; have n7_ := sqn BK111 hg; have n8_ := sqm BK111 hg; have n9_ := sqn BK112 hg; have n10_ := sqm BK112 hg; clear HO117; clear BK111; clear BK112; clear HB; have HO117 := n0_; have BK111 := n1_; have BK112 := n2_; have HB := n3_; have BK118 := n4_; have GW118 := n5_; have GE118 := n6_; have NB111_118 := n7_; have NB118_111 := n8_; have NB112_118 := n9_; have NB118_112 := n10_; clear n0_ n1_ n2_ n3_ n4_ n5_ n6_ n7_ n8_ n9_ n10_; clear hb hbox hg; have hnb13 := NB118_111.out; have hnc13 := NB111_118.out; have hnb14 := NB118_112.out; have hnc14 := NB112_118.out; obtain ⟨hcz15_0, hcz15_1, hfz15_0, hfz15_1⟩ := sqc2 BK118; obtain ⟨Ao16, co16, eo16⟩ := Kd.R_slice HO117.out; subst eo16)); try go_wp2_with (first | ((with_reducible refine gate_dst (N := 1) rfl ?_); refine sqx 1 #[.int .i64 a0_0, .slice A0_1 l0_1.length c0_1] 41 ?_; intro gb111 hg w5 hbox hb; have BK111 := Aside0.mk (hbox); have GW111 := sqg HB hg; have GE111 := sqg HB hg; replace HB := sqs HB hb; clear hb hbox hg) | ((with_reducible refine gate_dst (N := 2) rfl ?_); refine sqx 2 #[.int .i64 0, .slice none 0 0] 41 ?_; intro gb112 hg w6 hbox hb; have BK112 := Aside0.mk (hbox); have GW112 := sqg HB hg; have GE112 := sqg HB hg; have NB111_112 := sqn BK111 hg; have NB112_111 := sqm BK111 hg; replace BK111 := sqb BK111 hb; replace HB := sqs HB hb; clear hb hbox hg; have hnb7 := NB111_112.out; have hnc7 := NB112_111.out; obtain ⟨hcz8_0, hcz8_1, hfz8_0, hfz8_1⟩ := sqc2 BK111) | (go_at_call 31; (with_reducible refine (impl_GapsOk.calls k a0_0 _ _ l0_1 true _ ?side1 ?side2 A2.out).mono ?_); (case side1 => repeat (first | exact (Kd.C_below HR0_1.out HB.out) | (with_reducible refine Kd.C_alloc ?_ _) | (with_reducible refine Kd.C_drewN ?_ _) | (with_reducible refine Kd.C_drew ?_))); (case side2 => exact HC0_1.out); rintro e w9 ⟨rfl, hb⟩; replace BK111 := sqb BK111 hb; replace BK112 := sqb BK112 hb; replace HB := sqs HB hb; (try clear hb); obtain ⟨hcz10_0, hcz10_1, hfz10_0, hfz10_1⟩ := sqc2 BK111) | (go_at_call 111; (with_reducible refine (impl_Gaps_clone.calls a0_0 _ _ l0_1 t114 t115 _ ?side1 ?side2 A4.out).mono ?_); (case side1 => repeat (first | exact (Kd.C_below HR0_1.out HB.out) | (with_reducible refine Kd.C_alloc ?_ _) | (with_reducible refine Kd.C_drewN ?_ _) | (with_reducible refine Kd.C_drew ?_))); (case side2 => exact HC0_1.out); rintro e w11 ⟨v116, rfl, ho0, hb⟩; have HO117 := Aside0.mk (Kd.R_lower ho0 (below_size (by repeat (first | (with_reducible first | exact HB.out | apply below_alloc | apply pw_below_drewN | apply below_drew1 | refine below_set ?_ GE111.out | refine below_set ?_ GE112.out) | exact HB.out)))); replace BK111 := sqb BK111 hb; replace BK112 := sqb BK112 hb; replace HB := sqs HB hb; (try clear hb); (try clear hb2); (try clear hk); (try clear hi); (try clear ho0)) | ((with_reducible refine gate_dst (N := 4) rfl ?_); refine sqx 4 #[.int .i64 0, .slice none 0 0] 41 ?_; intro gb118 hg w12 hbox hb; have n0_ := Aside0.mk (Kd.R_below (by (with_reducible repeat (first | apply Kd.R_alloc | apply Kd.R_drewN | apply Kd.R_drew)); exact HO117.out) hb); have n1_ := sqb BK111 hb; have n2_ := sqb BK112 hb; have n3_ := sqs HB hb; have n4_ := Aside0.mk (hbox); have n5_ := sqg HB hg; have n6_ := sqg HB hg; have n7_ := sqn BK111 hg; have n8_ := sqm BK111 hg; have n9_ := sqn BK112 hg; have n10_ := sqm BK112 hg; clear HO117; clear BK111; clear BK112; clear HB; have HO117 := n0_; have BK111 := n1_; have BK112 := n2_; have HB := n3_; have BK118 := n4_; have GW118 := n5_; have GE118 := n6_; have NB111_118 := n7_; have NB118_111 := n8_; have NB112_118 := n9_; have NB118_112 := n10_; clear n0_ n1_ n2_ n3_ n4_ n5_ n6_ n7_ n8_ n9_ n10_; clear hb hbox hg; have hnb13 := NB118_111.out; have hnc13 := NB111_118.out; have hnb14 := NB118_112.out; have hnc14 := NB112_118.out; obtain ⟨hcz15_0, hcz15_1, hfz15_0, hfz15_1⟩ := sqc2 BK118; obtain ⟨Ao16, co16, eo16⟩ := Kd.R_slice HO117.out; subst eo16)))
    go_loopg [23] k (fun kq v23 w' => ∃ (x23_1 : Int) (x113000_1 : Int) (x119001_1 : List Int) (u119001 : Value), v23 = .int .i64 x23_1 ∧ Aside0 (impl_GapsClose.l0 kq (wrap64 (t114 + 1)) (wrap64 (t114 + 1)) x23_1 t114 x119001_1 = some (r1, r2, r3)) ∧ Aside0 (kq ≤ k) ∧ Aside0 (Kd.R (Kd.int .i64) 3 w' w.heap.size (fun _ => True) u119001 x119001_1) ∧ Aside0 (w'.heap[gb111]? = some (.cells #[.int .i64 a0_0, (.slice A0_1 l0_1.length c0_1)] 41 (0, 0))) ∧ Aside0 (w'.heap[gb112]? = some (.cells #[.int .i64 x113000_1, (.slice none 0 0)] 41 (0, 0))) ∧ Aside0 (w'.heap[gb118]? = some (.cells #[.int .i64 t114, u119001] 41 (0, 0))) ∧ Aside0 (Below w.heap.size w w'))
    case atStart => exact ⟨(0), (0), (t115), (.slice Ao16 t115.length co16), (by first | rfl | (simp; done) | (simp [*]; done)), H', ⟨Nat.le_refl _⟩, ⟨by (with_reducible repeat (first | apply Kd.R_alloc | apply Kd.R_drewN | apply Kd.R_drew)); exact Kd.R_mono (Kd.R_far (p := ⟨gb118, 1, none⟩) (Kd.R_far (p := ⟨gb118, 0, none⟩) (Kd.R_types HO117.out BK118.out (by decide)) (fun _ hk => hk.2) (.int .i64 t114)) (fun _ hk => hk.2) (.slice Ao16 t115.length co16)) (fun _ hk => trivial)⟩, ⟨by refine sqt ?_; refine blk_far ?_ NB111_118.out _; refine sqt ?_; refine blk_far ?_ NB111_118.out _; refine sqt ?_; exact BK111.out⟩, ⟨by refine sqt ?_; refine blk_far ?_ NB112_118.out _; refine sqt ?_; refine blk_far ?_ NB112_118.out _; refine sqt ?_; exact BK112.out⟩, ⟨by refine sqt ?_; refine blk_put (cs := #[.int .i64 t114, .slice none 0 0]) ?_ 1 _ rfl; refine sqt ?_; refine blk_put (cs := #[.int .i64 0, .slice none 0 0]) ?_ 0 _ rfl; refine sqt ?_; exact BK118.out⟩, sqh HB⟩
    case round =>
      clear H'
      try clear c1
      try clear c2
      try clear p2
      try clear c3
      try clear p6
      try clear c7
      try clear c13
      try clear c14
      try clear hcz10_0
      try clear hcz10_1
      try clear hcz15_0
      try clear hcz15_1
      try clear hcz8_0
      try clear hcz8_1
      try clear hfz10_0
      try clear hfz10_1
      try clear hfz15_0
      try clear hfz15_1
      try clear hfz8_0
      try clear hfz8_1
      obtain ⟨x23_1, x113000_1, x119001_1, u119001, rfl, HA, HK1, HO_119001, BK111, BK112, BK118, HB⟩ := hrel
      cases gk with
      | zero => exact absurd HA.out (by simp [impl_GapsClose.l0])
      | succ k1 =>
        have H := HA.out
        clear HA
        simp only [impl_GapsClose.l0] at H
        by_cases c17 : x23_1 < (wrap64 (t114 + 1))
        · rw [if_pos c17] at H
          have c17b0 : decide (x23_1 < (wrap64 (t114 + 1))) = true := decide_eq_true c17
          clear c17
          have H' := Aside0.mk H
          clear H
          go_wp2
          repeat (go_quiet (fail); try go_wp2)
          go_loopg [27] k1 (fun kq v27 w' => ∃ (x27_2 : Int) (x119001_2 : List Int) (u119001 : Value), v27 = .int .i64 x27_2 ∧ Aside0 (impl_GapsClose.l1 kq (wrap64 (t114 + 1)) x23_1 (wrap64 (t114 + 1)) x23_1 (wrap64 (t114 + 1)) x27_2 t114 x119001_2 = some (r1, r2, r3)) ∧ Aside0 (kq ≤ k1) ∧ Aside0 (Kd.R (Kd.int .i64) 3 w' w.heap.size (fun _ => True) u119001 x119001_2) ∧ Aside0 (w'.heap[gb111]? = some (.cells #[.int .i64 a0_0, (.slice A0_1 l0_1.length c0_1)] 41 (0, 0))) ∧ Aside0 (w'.heap[gb112]? = some (.cells #[.int .i64 x113000_1, (.slice none 0 0)] 41 (0, 0))) ∧ Aside0 (w'.heap[gb118]? = some (.cells #[.int .i64 t114, u119001] 41 (0, 0))) ∧ Aside0 (Below w.heap.size w w'))
          case atStart => exact ⟨(0), (x119001_1), (u119001), (by first | rfl | (simp; done) | (simp [*]; done)), H', ⟨Nat.le_refl _⟩, ⟨by (with_reducible repeat (first | apply Kd.R_alloc | apply Kd.R_drewN | apply Kd.R_drew)); exact HO_119001.out⟩, sqk BK111, sqk BK112, sqk BK118, sqh HB⟩
          case round =>
            clear H'
            try clear c1
            try clear c2
            try clear p2
            try clear c3
            try clear p6
            try clear c7
            try clear c13
            try clear c14
            try clear c17
            try clear c17b0
            try clear hcz10_0
            try clear hcz10_1
            try clear hcz15_0
            try clear hcz15_1
            try clear hcz8_0
            try clear hcz8_1
            try clear hfz10_0
            try clear hfz10_1
            try clear hfz15_0
            try clear hfz15_1
            try clear hfz8_0
            try clear hfz8_1
            try clear p2
            try clear p6
            obtain ⟨x27_2, x119001_2, u119001, rfl, HA, HK2, HO_119001, BK111, BK112, BK118, HB⟩ := hrel
            cases gk with
            | zero => exact absurd HA.out (by simp [impl_GapsClose.l1])
            | succ k2 =>
              have H := HA.out
              clear HA
              simp only [impl_GapsClose.l1] at H
              by_cases c18 : x27_2 < (wrap64 (t114 + 1))
              · rw [if_pos c18] at H
                have c18b0 : decide (x27_2 < (wrap64 (t114 + 1))) = true := decide_eq_true c18
                clear c18
                have H' := Aside0.mk H
                clear H
                go_wp2
                repeat (go_quiet (fail); try go_wp2)
                go_loopg [31] k2 (fun kq v31 w' => ∃ (x31_3 : Int) (x119001_3 : List Int) (u119001 : Value), v31 = .int .i64 x31_3 ∧ Aside0 (impl_GapsClose.l2 kq (wrap64 (t114 + 1)) x23_1 x27_2 (wrap64 (t114 + 1)) x23_1 (wrap64 (t114 + 1)) x27_2 (wrap64 (t114 + 1)) x31_3 t114 x119001_3 = some (r1, r2, r3)) ∧ Aside0 (kq ≤ k2) ∧ Aside0 (Kd.R (Kd.int .i64) 3 w' w.heap.size (fun _ => True) u119001 x119001_3) ∧ Aside0 (w'.heap[gb111]? = some (.cells #[.int .i64 a0_0, (.slice A0_1 l0_1.length c0_1)] 41 (0, 0))) ∧ Aside0 (w'.heap[gb112]? = some (.cells #[.int .i64 x113000_1, (.slice none 0 0)] 41 (0, 0))) ∧ Aside0 (w'.heap[gb118]? = some (.cells #[.int .i64 t114, u119001] 41 (0, 0))) ∧ Aside0 (Below w.heap.size w w'))
                case atStart => exact ⟨(0), (x119001_2), (u119001), (by first | rfl | (simp; done) | (simp [*]; done)), H', ⟨Nat.le_refl _⟩, ⟨by (with_reducible repeat (first | apply Kd.R_alloc | apply Kd.R_drewN | apply Kd.R_drew)); exact HO_119001.out⟩, sqk BK111, sqk BK112, sqk BK118, sqh HB⟩
                case round =>
                  clear H'
                  try clear c1
                  try clear c2
                  try clear p2
                  try clear c3
                  try clear p6
                  try clear c7
                  try clear c13
                  try clear c14
                  try clear c17
                  try clear c17b0
                  try clear c18
                  try clear c18b0
                  try clear hcz10_0
                  try clear hcz10_1
                  try clear hcz15_0
                  try clear hcz15_1
                  try clear hcz8_0
                  try clear hcz8_1
                  try clear hfz10_0
                  try clear hfz10_1
                  try clear hfz15_0
                  try clear hfz15_1
                  try clear hfz8_0
                  try clear hfz8_1
                  try clear p2
                  try clear p6
                  obtain ⟨x31_3, x119001_3, u119001, rfl, HA, HK3, HO_119001, BK111, BK112, BK118, HB⟩ := hrel
                  cases gk with
                  | zero => exact absurd HA.out (by simp [impl_GapsClose.l2])
                  | succ k3 =>
                    have H := HA.out
                    clear HA
                    simp only [impl_GapsClose.l2] at H
                    by_cases c19 : x31_3 < (wrap64 (t114 + 1))
                    · rw [if_pos c19] at H
                      have c19b0 : decide (x31_3 < (wrap64 (t114 + 1))) = true := decide_eq_true c19
                      clear c19
                      obtain ⟨ji20, hji20⟩ : ∃ j_ : Int, (wrap64 ((wrap64 (x27_2 * (wrap64 (t114 + 1)))) + x23_1)) = j_ := ⟨_, rfl⟩
                      replace H : (if 0 ≤ (ji20) then (if (ji20) < (x119001_3.length : Int) then (if 0 ≤ (wrap64 ((wrap64 (x23_1 * (wrap64 (t114 + 1)))) + x31_3)) then (if (wrap64 ((wrap64 (x23_1 * (wrap64 (t114 + 1)))) + x31_3)) < (x119001_3.length : Int) then ((impl_gapsTogether.f (rd x119001_3 (ji20)) (rd x119001_3 (wrap64 ((wrap64 (x23_1 * (wrap64 (t114 + 1)))) + x31_3)))).bind fun t121 => (if 0 ≤ (wrap64 ((wrap64 (x27_2 * (wrap64 (t114 + 1)))) + x31_3)) then (if (wrap64 ((wrap64 (x27_2 * (wrap64 (t114 + 1)))) + x31_3)) < (x119001_3.length : Int) then (if t121 < (rd x119001_3 (wrap64 ((wrap64 (x27_2 * (wrap64 (t114 + 1)))) + x31_3))) then (impl_GapsClose.l2 k3 (wrap64 (t114 + 1)) x23_1 x27_2 (wrap64 (t114 + 1)) x23_1 (wrap64 (t114 + 1)) x27_2 (wrap64 (t114 + 1)) (wrap64 (x31_3 + 1)) t114 (x119001_3.set ((wrap64 ((wrap64 (x27_2 * (wrap64 (t114 + 1)))) + x31_3)) : Int).toNat t121)) else (impl_GapsClose.l2 k3 (wrap64 (t114 + 1)) x23_1 x27_2 (wrap64 (t114 + 1)) x23_1 (wrap64 (t114 + 1)) x27_2 (wrap64 (t114 + 1)) (wrap64 (x31_3 + 1)) t114 x119001_3)) else (none)) else (none))) else (none)) else (none)) else (none)) else (none)) = some (r1, r2, r3) := by first | (rw [hji20] at H; exact H) | (simp only [hji20] at H ⊢; exact H)
                      have hji20w : (IntKind.i64.wrap ((wrap64 (x27_2 * (wrap64 (t114 + 1)))) + x23_1)) = ji20 := (i64_w _).trans hji20
                      by_cases c21 : 0 ≤ (ji20)
                      · rw [if_pos c21] at H
                        have c21b0 : decide (0 ≤ (ji20)) = true := decide_eq_true c21
                        clear c21
                        by_cases c22 : (ji20) < (x119001_3.length : Int)
                        · rw [if_pos c22] at H
                          have c22b0 : decide ((ji20) < (x119001_3.length : Int)) = true := decide_eq_true c22
                          clear c22
                          obtain ⟨ji23, hji23⟩ : ∃ j_ : Int, (wrap64 ((wrap64 (x23_1 * (wrap64 (t114 + 1)))) + x31_3)) = j_ := ⟨_, rfl⟩
                          replace H : (if 0 ≤ (ji23) then (if (ji23) < (x119001_3.length : Int) then ((impl_gapsTogether.f (rd x119001_3 (ji20)) (rd x119001_3 (ji23))).bind fun t121 => (if 0 ≤ (wrap64 ((wrap64 (x27_2 * (wrap64 (t114 + 1)))) + x31_3)) then (if (wrap64 ((wrap64 (x27_2 * (wrap64 (t114 + 1)))) + x31_3)) < (x119001_3.length : Int) then (if t121 < (rd x119001_3 (wrap64 ((wrap64 (x27_2 * (wrap64 (t114 + 1)))) + x31_3))) then (impl_GapsClose.l2 k3 (wrap64 (t114 + 1)) x23_1 x27_2 (wrap64 (t114 + 1)) x23_1 (wrap64 (t114 + 1)) x27_2 (wrap64 (t114 + 1)) (wrap64 (x31_3 + 1)) t114 (x119001_3.set ((wrap64 ((wrap64 (x27_2 * (wrap64 (t114 + 1)))) + x31_3)) : Int).toNat t121)) else (impl_GapsClose.l2 k3 (wrap64 (t114 + 1)) x23_1 x27_2 (wrap64 (t114 + 1)) x23_1 (wrap64 (t114 + 1)) x27_2 (wrap64 (t114 + 1)) (wrap64 (x31_3 + 1)) t114 x119001_3)) else (none)) else (none))) else (none)) else (none)) = some (r1, r2, r3) := by first | (rw [hji23] at H; exact H) | (simp only [hji23] at H ⊢; exact H)
                          have hji23w : (IntKind.i64.wrap ((wrap64 (x23_1 * (wrap64 (t114 + 1)))) + x31_3)) = ji23 := (i64_w _).trans hji23
                          by_cases c24 : 0 ≤ (ji23)
                          · rw [if_pos c24] at H
                            have c24b0 : decide (0 ≤ (ji23)) = true := decide_eq_true c24
                            clear c24
                            by_cases c25 : (ji23) < (x119001_3.length : Int)
                            · rw [if_pos c25] at H
                              have c25b0 : decide ((ji23) < (x119001_3.length : Int)) = true := decide_eq_true c25
                              clear c25
                              replace H := Option.bind_eq_some_iff.mp H
                              obtain ⟨t121, A260, H⟩ := H
                              replace H : (if 0 ≤ (wrap64 ((wrap64 (x27_2 * (wrap64 (t114 + 1)))) + x31_3)) then (if (wrap64 ((wrap64 (x27_2 * (wrap64 (t114 + 1)))) + x31_3)) < (x119001_3.length : Int) then (if t121 < (rd x119001_3 (wrap64 ((wrap64 (x27_2 * (wrap64 (t114 + 1)))) + x31_3))) then (impl_GapsClose.l2 k3 (wrap64 (t114 + 1)) x23_1 x27_2 (wrap64 (t114 + 1)) x23_1 (wrap64 (t114 + 1)) x27_2 (wrap64 (t114 + 1)) (wrap64 (x31_3 + 1)) t114 (x119001_3.set ((wrap64 ((wrap64 (x27_2 * (wrap64 (t114 + 1)))) + x31_3)) : Int).toNat t121)) else (impl_GapsClose.l2 k3 (wrap64 (t114 + 1)) x23_1 x27_2 (wrap64 (t114 + 1)) x23_1 (wrap64 (t114 + 1)) x27_2 (wrap64 (t114 + 1)) (wrap64 (x31_3 + 1)) t114 x119001_3)) else (none)) else (none)) = some (r1, r2, r3) := H
                              have A26 := Aside0.mk A260
                              clear A260
                              obtain ⟨ji27, hji27⟩ : ∃ j_ : Int, (wrap64 ((wrap64 (x27_2 * (wrap64 (t114 + 1)))) + x31_3)) = j_ := ⟨_, rfl⟩
                              replace H : (if 0 ≤ (ji27) then (if (ji27) < (x119001_3.length : Int) then (if t121 < (rd x119001_3 (ji27)) then (impl_GapsClose.l2 k3 (wrap64 (t114 + 1)) x23_1 x27_2 (wrap64 (t114 + 1)) x23_1 (wrap64 (t114 + 1)) x27_2 (wrap64 (t114 + 1)) (wrap64 (x31_3 + 1)) t114 (x119001_3.set ((ji27) : Int).toNat t121)) else (impl_GapsClose.l2 k3 (wrap64 (t114 + 1)) x23_1 x27_2 (wrap64 (t114 + 1)) x23_1 (wrap64 (t114 + 1)) x27_2 (wrap64 (t114 + 1)) (wrap64 (x31_3 + 1)) t114 x119001_3)) else (none)) else (none)) = some (r1, r2, r3) := by first | (rw [hji27] at H; exact H) | (simp only [hji27] at H ⊢; exact H)
                              (try rw [hji27] at A26)
                              have hji27w : (IntKind.i64.wrap ((wrap64 (x27_2 * (wrap64 (t114 + 1)))) + x31_3)) = ji27 := (i64_w _).trans hji27
                              by_cases c28 : 0 ≤ (ji27)
                              · rw [if_pos c28] at H
                                have c28b0 : decide (0 ≤ (ji27)) = true := decide_eq_true c28
                                clear c28
                                by_cases c29 : (ji27) < (x119001_3.length : Int)
                                · rw [if_pos c29] at H
                                  have c29b0 : decide ((ji27) < (x119001_3.length : Int)) = true := decide_eq_true c29
                                  clear c29
                                  by_cases c30 : t121 < (rd x119001_3 (ji27))
                                  · rw [if_pos c30] at H
                                    have c30b0 : decide (t121 < (rd x119001_3 (ji27))) = true := decide_eq_true c30
                                    clear c30
                                    obtain ⟨y123, hy123⟩ : ∃ y_ : List Int, y_ = (x119001_3.set ((ji27) : Int).toNat t121) := ⟨_, rfl⟩
                                    replace H : (impl_GapsClose.l2 k3 (wrap64 (t114 + 1)) x23_1 x27_2 (wrap64 (t114 + 1)) x23_1 (wrap64 (t114 + 1)) x27_2 (wrap64 (t114 + 1)) (wrap64 (x31_3 + 1)) t114 y123) = some (r1, r2, r3) := by first | (rw [hy123]; with_reducible exact H) | (have H2_ := (Option.bind_some _ _).symm.trans H; rw [hy123]; with_reducible exact H2_) | (have H2_ := (Option.bind_some _ _).symm.trans H; with_reducible exact H2_) | with_reducible exact H | (rw [hy123]; exact H) | exact H
                                    have Ny123 := Aside0.mk hy123
                                    clear hy123
                                    have H' := Aside0.mk H
                                    clear H
                                    have hnb32 := NB118_111.out
                                    have hnc32 := NB111_118.out
                                    have hnb33 := NB118_112.out
                                    have hnc33 := NB112_118.out
                                    obtain ⟨hcz34_0, hcz34_1, hfz34_0, hfz34_1⟩ := sqc2 BK118
                                    obtain ⟨Ao35, co35, eo35⟩ := Kd.R_slice HO_119001.out
                                    subst eo35
                                    have p119 : 0 ≤ ((ji20) : Int) := of_decide_eq_true (by first | (with_reducible assumption) | assumption)
                                    have q119 : (ji20) < (x119001_3.length : Int) := of_decide_eq_true (by first | (with_reducible assumption) | assumption)
                                    obtain ⟨ad119, e119, hx119_0⟩ := Kd.at_int (Kd.R_reads' HO_119001.out).2.2 (ji20) p119 q119
                                    cases e119
                                    replace p119 := eq_true p119
                                    replace q119 := eq_true q119
                                    have p120 : 0 ≤ ((ji23) : Int) := of_decide_eq_true (by first | (with_reducible assumption) | assumption)
                                    have q120 : (ji23) < (x119001_3.length : Int) := of_decide_eq_true (by first | (with_reducible assumption) | assumption)
                                    obtain ⟨ad120, e120, hx120_0⟩ := Kd.at_int (Kd.R_reads' HO_119001.out).2.2 (ji23) p120 q120
                                    obtain rfl : ad119 = ad120 := (by injection e120)
                                    replace p120 := eq_true p120
                                    replace q120 := eq_true q120
                                    have p122 : 0 ≤ ((ji27) : Int) := of_decide_eq_true (by first | (with_reducible assumption) | assumption)
                                    have q122 : (ji27) < (x119001_3.length : Int) := of_decide_eq_true (by first | (with_reducible assumption) | assumption)
                                    obtain ⟨ad122, e122, hx122_0⟩ := Kd.at_int (Kd.R_reads' HO_119001.out).2.2 (ji27) p122 q122
                                    obtain rfl : ad119 = ad122 := (by injection e122)
                                    replace p122 := eq_true p122
                                    replace q122 := eq_true q122
                                    have p31 : 0 ≤ ((ji27) : Int) := of_decide_eq_true (by first | (with_reducible assumption) | assumption)
                                    have q31 : ((ji27) : Int) < ((x119001_3.length : Int) : Int) := of_decide_eq_true (by first | (with_reducible assumption) | assumption)
                                    obtain ⟨go31, co31, eo31, gb31, gl31, cl31, HG31⟩ := Kd.R_form HO_119001.out (by omega)
                                    (first | cases eo31 | (injection eo31 with ea_ en_ ec_; (first | subst ea_ | (injection ea_ with ea_; subst ea_)); subst ec_; clear en_))
                                    have GB31 := Aside0.mk gb31
                                    have GG31 := Aside0.mk HG31
                                    clear gb31 gl31 HG31
                                    (first | simp only [add_plain] at hx119_0 | skip)
                                    (first | simp only [add_plain] at hx120_0 | skip)
                                    (first | simp only [add_plain] at hx122_0 | skip)
                                    obtain ⟨hx31_0, hf31_0⟩ := Kd.R_celln 0 HO_119001.out ((ji27) : Int) p31 q31
                                    replace p31 := eq_true p31
                                    replace q31 := eq_true q31
                                    obtain ⟨hy36_, hz36_⟩ := Kd.R_celln 0 HO_119001.out ((ji27) : Int) (of_decide_eq_true (by first | (with_reducible assumption) | assumption)) (of_decide_eq_true (by first | (with_reducible assumption) | assumption))
                                    have HP36 := Kd.R_putg HO_119001.out ((ji27) : Int) t121
                                    go_wp2_with (first | (go_at_call 112; (with_reducible refine (impl_gapsTogether.calls (rd x119001_3 (ji20)) (rd x119001_3 (ji23)) t121 _ A26.out).mono ?_); rintro e w' ⟨rfl, ⟨nd, rfl⟩⟩; (try first | exact ⟨rfl, _, World.drewN_drewN _ _ _⟩ | exact ⟨rfl, _, Eq.trans (World.drewN_drewN _ _ _) (congrArg (World.drewN _) (Nat.add_assoc _ _ _))⟩)) | ((with_reducible refine gate_store (t := 3) (p := 72) rfl ?_); (try (rw [drewN_self wr]; generalize hq_ : World.drewN wr _ = wr; have n0_ := Aside0.mk (Kd.R_at hq_ HO_119001.out); have n1_ := Aside0.mk (blk_at hq_ BK111.out); have n2_ := Aside0.mk (blk_at hq_ BK112.out); have n3_ := Aside0.mk (blk_at hq_ BK118.out); have n4_ := Aside0.mk (below_at hq_ HB.out); clear hq_ HO_119001 BK111 BK112 BK118 HB; have HO_119001 := n0_; have BK111 := n1_; have BK112 := n2_; have BK118 := n3_; have HB := n4_; clear n0_ n1_ n2_ n3_ n4_; (try (obtain ⟨hy36_, hz36_⟩ := Kd.R_celln 0 HO_119001.out ((ji27) : Int) (of_decide_eq_true (by first | (with_reducible assumption) | assumption)) (of_decide_eq_true (by first | (with_reducible assumption) | assumption)))); (try (have HP36 := Kd.R_putg HO_119001.out ((ji27) : Int) t121)))); refine store_event (t := 3) (p := 72) (v := ?vo_w37) (w1 := (wr.setCell ⟨go31, ((ji27) : Int).toNat, none⟩ (.int .i64 t121))) ?hg ?ho ?hn ?hr ?_; (case ho => rfl); (case hg => rfl); (case hn => rfl); (case hr => first | (go_simp; done) | (go_simp; rfl)); intro w37 hw; have hg : wr.grownBy w37 (some go31) := (by rw [hw]; exact HP36.2); have hp_ : Kd.R (Kd.int .i64) 3 w37 w.heap.size (fun _ => True) (.slice (some ⟨go31, 0, none⟩) x119001_3.length co35) y123 := (by rw [hw, Ny123.out]; exact HP36.1); clear HP36; have n0_ := Aside0.mk (hp_); have n1_ := Aside0.mk (blk_grown (g := gb111) (o := .cells #[.int .i64 a0_0, .slice A0_1 l0_1.length c0_1] 41 (0, 0)) (by refine sqt ?_; exact BK111.out) hg (Kd.R_ne HO_119001.out BK111.out (by decide))); have n2_ := Aside0.mk (blk_grown (g := gb112) (o := .cells #[.int .i64 x113000_1, .slice none 0 0] 41 (0, 0)) (by refine sqt ?_; exact BK112.out) hg (Kd.R_ne HO_119001.out BK112.out (by decide))); have n3_ := Aside0.mk (blk_grown (g := gb118) (o := .cells #[.int .i64 t114, .slice (some ⟨go31, 0, none⟩) x119001_3.length co35] 41 (0, 0)) (by refine sqt ?_; exact BK118.out) hg (Kd.R_ne HO_119001.out BK118.out (by decide))); have n4_ := Aside0.mk ((by rw [hw]; exact below_set (HB.out) GB31.out : Below w.heap.size w w37)); clear HO_119001; clear BK111; clear BK112; clear BK118; clear HB; have HO_119001 := n0_; have BK111 := n1_; have BK112 := n2_; have BK118 := n3_; have HB := n4_; clear n0_ n1_ n2_ n3_ n4_; clear hg hw hp_))
                                    repeat (go_quiet (first | (go_at_call 112; (with_reducible refine (impl_gapsTogether.calls (rd x119001_3 (ji20)) (rd x119001_3 (ji23)) t121 _ A26.out).mono ?_); rintro e w' ⟨rfl, ⟨nd, rfl⟩⟩; (try first | exact ⟨rfl, _, World.drewN_drewN _ _ _⟩ | exact ⟨rfl, _, Eq.trans (World.drewN_drewN _ _ _) (congrArg (World.drewN _) (Nat.add_assoc _ _ _))⟩)) | ((with_reducible refine gate_store (t := 3) (p := 72) rfl ?_); (try (rw [drewN_self wr]; generalize hq_ : World.drewN wr _ = wr; have n0_ := Aside0.mk (Kd.R_at hq_ HO_119001.out); have n1_ := Aside0.mk (blk_at hq_ BK111.out); have n2_ := Aside0.mk (blk_at hq_ BK112.out); have n3_ := Aside0.mk (blk_at hq_ BK118.out); have n4_ := Aside0.mk (below_at hq_ HB.out); clear hq_ HO_119001 BK111 BK112 BK118 HB; have HO_119001 := n0_; have BK111 := n1_; have BK112 := n2_; have BK118 := n3_; have HB := n4_; clear n0_ n1_ n2_ n3_ n4_; (try (obtain ⟨hy36_, hz36_⟩ := Kd.R_celln 0 HO_119001.out ((ji27) : Int) (of_decide_eq_true (by first | (with_reducible assumption) | assumption)) (of_decide_eq_true (by first | (with_reducible assumption) | assumption)))); (try (have HP36 := Kd.R_putg HO_119001.out ((ji27) : Int) t121)))); refine store_event (t := 3) (p := 72) (v := ?vo_w37) (w1 := (wr.setCell ⟨go31, ((ji27) : Int).toNat, none⟩ (.int .i64 t121))) ?hg ?ho ?hn ?hr ?_; (case ho => rfl); (case hg => rfl); (case hn => rfl); (case hr => first | (go_simp; done) | (go_simp; rfl)); intro w37 hw; have hg : wr.grownBy w37 (some go31) := (by rw [hw]; exact HP36.2); have hp_ : Kd.R (Kd.int .i64) 3 w37 w.heap.size (fun _ => True) (.slice (some ⟨go31, 0, none⟩) x119001_3.length co35) y123 := (by rw [hw, Ny123.out]; exact HP36.1); clear HP36; have n0_ := Aside0.mk (hp_); have n1_ := Aside0.mk (blk_grown (g := gb111) (o := .cells #[.int .i64 a0_0, .slice A0_1 l0_1.length c0_1] 41 (0, 0)) (by refine sqt ?_; exact BK111.out) hg (Kd.R_ne HO_119001.out BK111.out (by decide))); have n2_ := Aside0.mk (blk_grown (g := gb112) (o := .cells #[.int .i64 x113000_1, .slice none 0 0] 41 (0, 0)) (by refine sqt ?_; exact BK112.out) hg (Kd.R_ne HO_119001.out BK112.out (by decide))); have n3_ := Aside0.mk (blk_grown (g := gb118) (o := .cells #[.int .i64 t114, .slice (some ⟨go31, 0, none⟩) x119001_3.length co35] 41 (0, 0)) (by refine sqt ?_; exact BK118.out) hg (Kd.R_ne HO_119001.out BK118.out (by decide))); have n4_ := Aside0.mk ((by rw [hw]; exact below_set (HB.out) GB31.out : Below w.heap.size w w37)); clear HO_119001; clear BK111; clear BK112; clear BK118; clear HB; have HO_119001 := n0_; have BK111 := n1_; have BK112 := n2_; have BK118 := n3_; have HB := n4_; clear n0_ n1_ n2_ n3_ n4_; clear hg hw hp_)); try go_wp2_with (first | (go_at_call 112; (with_reducible refine (impl_gapsTogether.calls (rd x119001_3 (ji20)) (rd x119001_3 (ji23)) t121 _ A26.out).mono ?_); rintro e w' ⟨rfl, ⟨nd, rfl⟩⟩; (try first | exact ⟨rfl, _, World.drewN_drewN _ _ _⟩ | exact ⟨rfl, _, Eq.trans (World.drewN_drewN _ _ _) (congrArg (World.drewN _) (Nat.add_assoc _ _ _))⟩)) | ((with_reducible refine gate_store (t := 3) (p := 72) rfl ?_); (try (rw [drewN_self wr]; generalize hq_ : World.drewN wr _ = wr; have n0_ := Aside0.mk (Kd.R_at hq_ HO_119001.out); have n1_ := Aside0.mk (blk_at hq_ BK111.out); have n2_ := Aside0.mk (blk_at hq_ BK112.out); have n3_ := Aside0.mk (blk_at hq_ BK118.out); have n4_ := Aside0.mk (below_at hq_ HB.out); clear hq_ HO_119001 BK111 BK112 BK118 HB; have HO_119001 := n0_; have BK111 := n1_; have BK112 := n2_; have BK118 := n3_; have HB := n4_; clear n0_ n1_ n2_ n3_ n4_; (try (obtain ⟨hy36_, hz36_⟩ := Kd.R_celln 0 HO_119001.out ((ji27) : Int) (of_decide_eq_true (by first | (with_reducible assumption) | assumption)) (of_decide_eq_true (by first | (with_reducible assumption) | assumption)))); (try (have HP36 := Kd.R_putg HO_119001.out ((ji27) : Int) t121)))); refine store_event (t := 3) (p := 72) (v := ?vo_w37) (w1 := (wr.setCell ⟨go31, ((ji27) : Int).toNat, none⟩ (.int .i64 t121))) ?hg ?ho ?hn ?hr ?_; (case ho => rfl); (case hg => rfl); (case hn => rfl); (case hr => first | (go_simp; done) | (go_simp; rfl)); intro w37 hw; have hg : wr.grownBy w37 (some go31) := (by rw [hw]; exact HP36.2); have hp_ : Kd.R (Kd.int .i64) 3 w37 w.heap.size (fun _ => True) (.slice (some ⟨go31, 0, none⟩) x119001_3.length co35) y123 := (by rw [hw, Ny123.out]; exact HP36.1); clear HP36; have n0_ := Aside0.mk (hp_); have n1_ := Aside0.mk (blk_grown (g := gb111) (o := .cells #[.int .i64 a0_0, .slice A0_1 l0_1.length c0_1] 41 (0, 0)) (by refine sqt ?_; exact BK111.out) hg (Kd.R_ne HO_119001.out BK111.out (by decide))); have n2_ := Aside0.mk (blk_grown (g := gb112) (o := .cells #[.int .i64 x113000_1, .slice none 0 0] 41 (0, 0)) (by refine sqt ?_; exact BK112.out) hg (Kd.R_ne HO_119001.out BK112.out (by decide))); have n3_ := Aside0.mk (blk_grown (g := gb118) (o := .cells #[.int .i64 t114, .slice (some ⟨go31, 0, none⟩) x119001_3.length co35] 41 (0, 0)) (by refine sqt ?_; exact BK118.out) hg (Kd.R_ne HO_119001.out BK118.out (by decide))); have n4_ := Aside0.mk ((by rw [hw]; exact below_set (HB.out) GB31.out : Below w.heap.size w w37)); clear HO_119001; clear BK111; clear BK112; clear BK118; clear HB; have HO_119001 := n0_; have BK111 := n1_; have BK112 := n2_; have BK118 := n3_; have HB := n4_; clear n0_ n1_ n2_ n3_ n4_; clear hg hw hp_)))
                                    go_roundg k3
                                    case measure => have := HK1.out; have := HK2.out; have := HK3.out; omega
                                    case rel => exact ⟨(wrap64 (x31_3 + 1)), (y123), (.slice (some ⟨go31, 0, none⟩) x119001_3.length co35), (by first | rfl | (simp; done) | (simp [*]; done)), H', ⟨by have := HK1.out; have := HK2.out; have := HK3.out; omega⟩, ⟨by (with_reducible repeat (first | apply Kd.R_alloc | apply Kd.R_drewN | apply Kd.R_drew)); exact HO_119001.out⟩, sqk BK111, sqk BK112, sqk BK118, sqh HB⟩
                                  · rw [if_neg c30] at H
                                    have c30b0 : decide (t121 < (rd x119001_3 (ji27))) = false := decide_eq_false c30
                                    clear c30
                                    have H' := Aside0.mk H
                                    clear H
                                    have hnb38 := NB118_111.out
                                    have hnc38 := NB111_118.out
                                    have hnb39 := NB118_112.out
                                    have hnc39 := NB112_118.out
                                    obtain ⟨hcz40_0, hcz40_1, hfz40_0, hfz40_1⟩ := sqc2 BK118
                                    obtain ⟨Ao41, co41, eo41⟩ := Kd.R_slice HO_119001.out
                                    subst eo41
                                    have p119 : 0 ≤ ((ji20) : Int) := of_decide_eq_true (by first | (with_reducible assumption) | assumption)
                                    have q119 : (ji20) < (x119001_3.length : Int) := of_decide_eq_true (by first | (with_reducible assumption) | assumption)
                                    obtain ⟨ad119, e119, hx119_0⟩ := Kd.at_int (Kd.R_reads' HO_119001.out).2.2 (ji20) p119 q119
                                    cases e119
                                    replace p119 := eq_true p119
                                    replace q119 := eq_true q119
                                    have p120 : 0 ≤ ((ji23) : Int) := of_decide_eq_true (by first | (with_reducible assumption) | assumption)
                                    have q120 : (ji23) < (x119001_3.length : Int) := of_decide_eq_true (by first | (with_reducible assumption) | assumption)
                                    obtain ⟨ad120, e120, hx120_0⟩ := Kd.at_int (Kd.R_reads' HO_119001.out).2.2 (ji23) p120 q120
                                    obtain rfl : ad119 = ad120 := (by injection e120)
                                    replace p120 := eq_true p120
                                    replace q120 := eq_true q120
                                    have p122 : 0 ≤ ((ji27) : Int) := of_decide_eq_true (by first | (with_reducible assumption) | assumption)
                                    have q122 : (ji27) < (x119001_3.length : Int) := of_decide_eq_true (by first | (with_reducible assumption) | assumption)
                                    obtain ⟨ad122, e122, hx122_0⟩ := Kd.at_int (Kd.R_reads' HO_119001.out).2.2 (ji27) p122 q122
                                    obtain rfl : ad119 = ad122 := (by injection e122)
                                    replace p122 := eq_true p122
                                    replace q122 := eq_true q122
                                    go_wp2_with (first | (go_at_call 112; (with_reducible refine (impl_gapsTogether.calls (rd x119001_3 (ji20)) (rd x119001_3 (ji23)) t121 _ A26.out).mono ?_); rintro e w' ⟨rfl, ⟨nd, rfl⟩⟩; (try first | exact ⟨rfl, _, World.drewN_drewN _ _ _⟩ | exact ⟨rfl, _, Eq.trans (World.drewN_drewN _ _ _) (congrArg (World.drewN _) (Nat.add_assoc _ _ _))⟩)))
                                    repeat (go_quiet (first | (go_at_call 112; (with_reducible refine (impl_gapsTogether.calls (rd x119001_3 (ji20)) (rd x119001_3 (ji23)) t121 _ A26.out).mono ?_); rintro e w' ⟨rfl, ⟨nd, rfl⟩⟩; (try first | exact ⟨rfl, _, World.drewN_drewN _ _ _⟩ | exact ⟨rfl, _, Eq.trans (World.drewN_drewN _ _ _) (congrArg (World.drewN _) (Nat.add_assoc _ _ _))⟩))); try go_wp2_with (first | (go_at_call 112; (with_reducible refine (impl_gapsTogether.calls (rd x119001_3 (ji20)) (rd x119001_3 (ji23)) t121 _ A26.out).mono ?_); rintro e w' ⟨rfl, ⟨nd, rfl⟩⟩; (try first | exact ⟨rfl, _, World.drewN_drewN _ _ _⟩ | exact ⟨rfl, _, Eq.trans (World.drewN_drewN _ _ _) (congrArg (World.drewN _) (Nat.add_assoc _ _ _))⟩))))
                                    go_roundg k3
                                    case measure => have := HK1.out; have := HK2.out; have := HK3.out; omega
                                    case rel => exact ⟨(wrap64 (x31_3 + 1)), (x119001_3), (.slice (some ad119) x119001_3.length co41), (by first | rfl | (simp; done) | (simp [*]; done)), H', ⟨by have := HK1.out; have := HK2.out; have := HK3.out; omega⟩, ⟨by (with_reducible repeat (first | apply Kd.R_alloc | apply Kd.R_drewN | apply Kd.R_drew)); exact HO_119001.out⟩, sqk BK111, sqk BK112, sqk BK118, sqh HB⟩
                                · rw [if_neg c29] at H
                                  exact absurd H (by simp)
                              · rw [if_neg c28] at H
                                exact absurd H (by simp)
                            · rw [if_neg c25] at H
                              exact absurd H (by simp)
                          · rw [if_neg c24] at H
                            exact absurd H (by simp)
                        · rw [if_neg c22] at H
                          exact absurd H (by simp)
                      · rw [if_neg c21] at H
                        exact absurd H (by simp)
                    · rw [if_neg c19] at H
                      have c19b0 : decide (x31_3 < (wrap64 (t114 + 1))) = false := decide_eq_false c19
                      clear c19
                      have H' := Aside0.mk H
                      clear H
                      go_wp2
                      repeat (go_quiet (fail); try go_wp2)
                      go_roundg k3
                      case measure => have := HK1.out; have := HK2.out; have := HK3.out; omega
                      case rel => exact ⟨(wrap64 (x27_2 + 1)), (x119001_3), (u119001), (by first | rfl | (simp; done) | (simp [*]; done)), H', ⟨by have := HK1.out; have := HK2.out; have := HK3.out; omega⟩, ⟨by (with_reducible repeat (first | apply Kd.R_alloc | apply Kd.R_drewN | apply Kd.R_drew)); exact HO_119001.out⟩, sqk BK111, sqk BK112, sqk BK118, sqh HB⟩
              · rw [if_neg c18] at H
                have c18b0 : decide (x27_2 < (wrap64 (t114 + 1))) = false := decide_eq_false c18
                clear c18
                have H' := Aside0.mk H
                clear H
                go_wp2
                repeat (go_quiet (fail); try go_wp2)
                go_loopg [76] k2 (fun kq v76 w' => ∃ (x76_3 : Int) (x113000_3 : Int), v76 = .int .i64 x76_3 ∧ Aside0 (impl_GapsClose.l3 kq (wrap64 (t114 + 1)) (wrap64 (t114 + 1)) x23_1 (wrap64 (t114 + 1)) x76_3 t114 x119001_2 = some (r1, r2, r3)) ∧ Aside0 (kq ≤ k2) ∧ Aside0 (Kd.R (Kd.int .i64) 3 w' w.heap.size (fun _ => True) u119001 x119001_2) ∧ Aside0 (w'.heap[gb111]? = some (.cells #[.int .i64 a0_0, (.slice A0_1 l0_1.length c0_1)] 41 (0, 0))) ∧ Aside0 (w'.heap[gb112]? = some (.cells #[.int .i64 x113000_3, (.slice none 0 0)] 41 (0, 0))) ∧ Aside0 (w'.heap[gb118]? = some (.cells #[.int .i64 t114, u119001] 41 (0, 0))) ∧ Aside0 (Below w.heap.size w w'))
                case atStart => exact ⟨(0), (x113000_1), (by first | rfl | (simp; done) | (simp [*]; done)), H', ⟨Nat.le_refl _⟩, ⟨by (with_reducible repeat (first | apply Kd.R_alloc | apply Kd.R_drewN | apply Kd.R_drew)); exact HO_119001.out⟩, sqk BK111, sqk BK112, sqk BK118, sqh HB⟩
                case round =>
                  clear H'
                  try clear c1
                  try clear p1
                  try clear q1
                  try clear hx1
                  try clear c2
                  try clear p2
                  try clear c3
                  try clear p3
                  try clear q3
                  try clear hx3
                  try clear hf3
                  try clear p6
                  try clear c7
                  try clear p11
                  try clear q11
                  try clear hx11
                  try clear p12
                  try clear q12
                  try clear hx12
                  try clear c13
                  try clear c14
                  try clear c17
                  try clear c17b0
                  try clear c18
                  try clear c18b0
                  try clear c19
                  try clear c19b0
                  try clear c21
                  try clear c21b0
                  try clear c22
                  try clear c22b0
                  try clear c24
                  try clear c24b0
                  try clear c25
                  try clear c25b0
                  try clear c28
                  try clear c28b0
                  try clear c29
                  try clear c29b0
                  try clear c30
                  try clear c30b0
                  try clear p31
                  try clear q31
                  try clear hx31
                  try clear hf31
                  try clear c32
                  try clear c33
                  try clear c38
                  try clear c39
                  try clear hcz10_0
                  try clear hcz10_1
                  try clear hcz15_0
                  try clear hcz15_1
                  try clear hcz34_0
                  try clear hcz34_1
                  try clear hcz40_0
                  try clear hcz40_1
                  try clear hcz8_0
                  try clear hcz8_1
                  try clear hfz10_0
                  try clear hfz10_1
                  try clear hfz15_0
                  try clear hfz15_1
                  try clear hfz34_0
                  try clear hfz34_1
                  try clear hfz40_0
                  try clear hfz40_1
                  try clear hfz8_0
                  try clear hfz8_1
                  try clear hx119_0
                  try clear hx120_0
                  try clear hx122_0
                  try clear hx31_0
                  try clear p119
                  try clear p120
                  try clear p122
                  try clear p2
                  try clear p31
                  try clear p6
                  try clear q119
                  try clear q120
                  try clear q122
                  try clear q31
                  obtain ⟨x76_3, x113000_3, rfl, HA, HK3, HO_119001, BK111, BK112, BK118, HB⟩ := hrel
                  cases gk with
                  | zero => exact absurd HA.out (by simp [impl_GapsClose.l3])
                  | succ k3 =>
                    have H := HA.out
                    clear HA
                    simp only [impl_GapsClose.l3] at H
                    by_cases c42 : x76_3 < (wrap64 (t114 + 1))
                    · rw [if_pos c42] at H
                      have c42b0 : decide (x76_3 < (wrap64 (t114 + 1))) = true := decide_eq_true c42
                      clear c42
                      obtain ⟨ji43, hji43⟩ : ∃ j_ : Int, (wrap64 ((wrap64 (x76_3 * (wrap64 (t114 + 1)))) + x76_3)) = j_ := ⟨_, rfl⟩
                      replace H : (if 0 ≤ (ji43) then (if (ji43) < (x119001_2.length : Int) then (if (rd x119001_2 (ji43)) < 0 then (some (0, ([] : List Int), false)) else (impl_GapsClose.l3 k3 (wrap64 (t114 + 1)) (wrap64 (t114 + 1)) x23_1 (wrap64 (t114 + 1)) (wrap64 (x76_3 + 1)) t114 x119001_2)) else (none)) else (none)) = some (r1, r2, r3) := by first | (rw [hji43] at H; exact H) | (simp only [hji43] at H ⊢; exact H)
                      have hji43w : (IntKind.i64.wrap ((wrap64 (x76_3 * (wrap64 (t114 + 1)))) + x76_3)) = ji43 := (i64_w _).trans hji43
                      by_cases c44 : 0 ≤ (ji43)
                      · rw [if_pos c44] at H
                        have c44b0 : decide (0 ≤ (ji43)) = true := decide_eq_true c44
                        clear c44
                        by_cases c45 : (ji43) < (x119001_2.length : Int)
                        · rw [if_pos c45] at H
                          have c45b0 : decide ((ji43) < (x119001_2.length : Int)) = true := decide_eq_true c45
                          clear c45
                          by_cases c46 : (rd x119001_2 (ji43)) < 0
                          · rw [if_pos c46] at H
                            have c46b0 : decide ((rd x119001_2 (ji43)) < 0) = true := decide_eq_true c46
                            clear c46
                            simp only [Option.some.injEq, Prod.mk.injEq] at H
                            obtain ⟨rfl, rfl, rfl⟩ := H
                            have hnb47 := NB118_111.out
                            have hnc47 := NB111_118.out
                            have hnb48 := NB118_112.out
                            have hnc48 := NB112_118.out
                            obtain ⟨hcz49_0, hcz49_1, hfz49_0, hfz49_1⟩ := sqc2 BK118
                            obtain ⟨Ao50, co50, eo50⟩ := Kd.R_slice HO_119001.out
                            subst eo50
                            have p124 : 0 ≤ ((ji43) : Int) := of_decide_eq_true (by first | (with_reducible assumption) | assumption)
                            have q124 : (ji43) < (x119001_2.length : Int) := of_decide_eq_true (by first | (with_reducible assumption) | assumption)
                            obtain ⟨ad124, e124, hx124_0⟩ := Kd.at_int (Kd.R_reads' HO_119001.out).2.2 (ji43) p124 q124
                            cases e124
                            replace p124 := eq_true p124
                            replace q124 := eq_true q124
                            have hnb51 := NB112_111.out
                            have hnc51 := NB111_112.out
                            obtain ⟨hcz52_0, hcz52_1, hfz52_0, hfz52_1⟩ := sqc2 BK112
                            go_wp2
                            repeat (go_quiet (fail); try go_wp2)
                            refine bodyPost_ret (results_ct rfl _ _ gb112 41 #[.int .i64 0, .slice none 0 0] (0, 0) _ rfl (by refine sqt ?_; refine blk_put (cs := #[.int .i64 0, .slice none 0 0]) ?_ 1 _ rfl; refine sqt ?_; refine blk_put (cs := #[.int .i64 x113000_3, .slice none 0 0]) ?_ 0 _ rfl; refine sqt ?_; exact BK112.out) Try.underlying41 rfl (by kernel_rfl)) rfl ?_
                            exact ⟨_, by first | rfl | (simp [errW_none, errW_some] <;> rfl) | (simp only [← hji43]; first | rfl | (simp [errW_none, errW_some] <;> rfl)) | (simp [*, errW_none, errW_some] <;> rfl), by first | exact Kd.R_nil _ _ _ _ _ | exact Kd.N_nil _ _ _ _ _ | exact Kd.V_nil _ _ _ _ _ | exact Kd.Q_nil _ _ _ _ _ | exact Kd.S_nil _ _ _ _ _, by repeat (first | (with_reducible first | exact HB.out | apply below_alloc | apply pw_below_drewN | apply below_drew1 | refine below_set ?_ GE111.out | refine below_set ?_ GE112.out | refine below_set ?_ GE118.out) | exact HB.out)⟩
                          · rw [if_neg c46] at H
                            have c46b0 : decide ((rd x119001_2 (ji43)) < 0) = false := decide_eq_false c46
                            clear c46
                            have H' := Aside0.mk H
                            clear H
                            have hnb53 := NB118_111.out
                            have hnc53 := NB111_118.out
                            have hnb54 := NB118_112.out
                            have hnc54 := NB112_118.out
                            obtain ⟨hcz55_0, hcz55_1, hfz55_0, hfz55_1⟩ := sqc2 BK118
                            obtain ⟨Ao56, co56, eo56⟩ := Kd.R_slice HO_119001.out
                            subst eo56
                            have p124 : 0 ≤ ((ji43) : Int) := of_decide_eq_true (by first | (with_reducible assumption) | assumption)
                            have q124 : (ji43) < (x119001_2.length : Int) := of_decide_eq_true (by first | (with_reducible assumption) | assumption)
                            obtain ⟨ad124, e124, hx124_0⟩ := Kd.at_int (Kd.R_reads' HO_119001.out).2.2 (ji43) p124 q124
                            cases e124
                            replace p124 := eq_true p124
                            replace q124 := eq_true q124
                            go_wp2
                            repeat (go_quiet (fail); try go_wp2)
                            go_roundg k3
                            case measure => have := HK1.out; have := HK2.out; have := HK3.out; omega
                            case rel => exact ⟨(wrap64 (x76_3 + 1)), (x113000_3), (by first | rfl | (simp; done) | (simp [*]; done)), H', ⟨by have := HK1.out; have := HK2.out; have := HK3.out; omega⟩, ⟨by (with_reducible repeat (first | apply Kd.R_alloc | apply Kd.R_drewN | apply Kd.R_drew)); exact HO_119001.out⟩, sqk BK111, sqk BK112, sqk BK118, sqh HB⟩
                        · rw [if_neg c45] at H
                          exact absurd H (by simp)
                      · rw [if_neg c44] at H
                        exact absurd H (by simp)
                    · rw [if_neg c42] at H
                      have c42b0 : decide (x76_3 < (wrap64 (t114 + 1))) = false := decide_eq_false c42
                      clear c42
                      have H' := Aside0.mk H
                      clear H
                      go_wp2
                      repeat (go_quiet (fail); try go_wp2)
                      go_roundg k3
                      case measure => have := HK1.out; have := HK2.out; have := HK3.out; omega
                      case rel => exact ⟨(wrap64 (x23_1 + 1)), (x113000_3), (x119001_2), (u119001), (by first | rfl | (simp; done) | (simp [*]; done)), H', ⟨by have := HK1.out; have := HK2.out; have := HK3.out; omega⟩, ⟨by (with_reducible repeat (first | apply Kd.R_alloc | apply Kd.R_drewN | apply Kd.R_drew)); exact HO_119001.out⟩, sqk BK111, sqk BK112, sqk BK118, sqh HB⟩
        · rw [if_neg c17] at H
          have c17b0 : decide (x23_1 < (wrap64 (t114 + 1))) = false := decide_eq_false c17
          clear c17
          have H' := Aside0.mk H
          clear H
          have hnb57 := NB118_111.out
          have hnc57 := NB111_118.out
          have hnb58 := NB118_112.out
          have hnc58 := NB112_118.out
          obtain ⟨hcz59_0, hcz59_1, hfz59_0, hfz59_1⟩ := sqc2 BK118
          obtain ⟨Ao60, co60, eo60⟩ := Kd.R_slice HO_119001.out
          subst eo60
          go_wp2
          repeat (go_quiet (fail); try go_wp2)
          go_loopg [95] k1 (fun kq v95 w' => ∃ (x95_2 : Int) (x113000_2 : Int), v95 = .int .i64 x95_2 ∧ Aside0 (impl_GapsClose.l4 kq x119001_1 (x119001_1.length : Int) x95_2 t114 x119001_1 = some (r1, r2, r3)) ∧ Aside0 (kq ≤ k1) ∧ Aside0 (Kd.R (Kd.int .i64) 3 w' w.heap.size (fun _ => True) (.slice Ao60 x119001_1.length co60) x119001_1) ∧ Aside0 (Kd.R (Kd.int .i64) 3 w' w.heap.size (fun _ => True) (.slice Ao60 x119001_1.length co60) x119001_1) ∧ Aside0 (w'.heap[gb111]? = some (.cells #[.int .i64 a0_0, (.slice A0_1 l0_1.length c0_1)] 41 (0, 0))) ∧ Aside0 (w'.heap[gb112]? = some (.cells #[.int .i64 x113000_2, (.slice none 0 0)] 41 (0, 0))) ∧ Aside0 (w'.heap[gb118]? = some (.cells #[.int .i64 t114, (.slice Ao60 x119001_1.length co60)] 41 (0, 0))) ∧ Aside0 (Below w.heap.size w w'))
          case atStart => exact ⟨(0), (x113000_1), (by first | rfl | (simp; done) | (simp [*]; done)), H', ⟨Nat.le_refl _⟩, ⟨by (with_reducible repeat (first | apply Kd.R_alloc | apply Kd.R_drewN | apply Kd.R_drew)); exact HO_119001.out⟩, ⟨by (with_reducible repeat (first | apply Kd.R_alloc | apply Kd.R_drewN | apply Kd.R_drew)); exact HO_119001.out⟩, sqk BK111, sqk BK112, sqk BK118, sqh HB⟩
          case round =>
            clear H'
            try clear c1
            try clear p1
            try clear q1
            try clear hx1
            try clear c2
            try clear p2
            try clear c3
            try clear p3
            try clear q3
            try clear hx3
            try clear hf3
            try clear c4
            try clear c5
            try clear p6
            try clear c7
            try clear p11
            try clear q11
            try clear hx11
            try clear p12
            try clear q12
            try clear hx12
            try clear c13
            try clear c14
            try clear c17
            try clear c17b0
            try clear c18
            try clear c18b0
            try clear c19
            try clear c19b0
            try clear c21
            try clear c21b0
            try clear c22
            try clear c22b0
            try clear c24
            try clear c24b0
            try clear c25
            try clear c25b0
            try clear c28
            try clear c28b0
            try clear c29
            try clear c29b0
            try clear c30
            try clear c30b0
            try clear p31
            try clear q31
            try clear hx31
            try clear hf31
            try clear c32
            try clear c33
            try clear c38
            try clear c39
            try clear c42
            try clear c42b0
            try clear c44
            try clear c44b0
            try clear c45
            try clear c45b0
            try clear c46
            try clear c46b0
            try clear c47
            try clear c48
            try clear c51
            try clear c53
            try clear c54
            try clear c57
            try clear c58
            try clear hcz10_0
            try clear hcz10_1
            try clear hcz15_0
            try clear hcz15_1
            try clear hcz34_0
            try clear hcz34_1
            try clear hcz40_0
            try clear hcz40_1
            try clear hcz49_0
            try clear hcz49_1
            try clear hcz52_0
            try clear hcz52_1
            try clear hcz55_0
            try clear hcz55_1
            try clear hcz59_0
            try clear hcz59_1
            try clear hcz8_0
            try clear hcz8_1
            try clear hfz10_0
            try clear hfz10_1
            try clear hfz15_0
            try clear hfz15_1
            try clear hfz34_0
            try clear hfz34_1
            try clear hfz40_0
            try clear hfz40_1
            try clear hfz49_0
            try clear hfz49_1
            try clear hfz52_0
            try clear hfz52_1
            try clear hfz55_0
            try clear hfz55_1
            try clear hfz59_0
            try clear hfz59_1
            try clear hfz8_0
            try clear hfz8_1
            try clear hx119_0
            try clear hx120_0
            try clear hx122_0
            try clear hx124_0
            try clear hx31_0
            try clear p1
            try clear p11
            try clear p119
            try clear p12
            try clear p120
            try clear p122
            try clear p124
            try clear p2
            try clear p3
            try clear p31
            try clear p6
            try clear q1
            try clear q11
            try clear q119
            try clear q12
            try clear q120
            try clear q122
            try clear q124
            try clear q3
            try clear q31
            obtain ⟨x95_2, x113000_2, rfl, HA, HK2, HO_93, HO_119001, BK111, BK112, BK118, HB⟩ := hrel
            cases gk with
            | zero => exact absurd HA.out (by simp [impl_GapsClose.l4])
            | succ k2 =>
              have H := HA.out
              clear HA
              simp only [impl_GapsClose.l4] at H
              by_cases c61 : x95_2 < (x119001_1.length : Int)
              · rw [if_pos c61] at H
                have c61b0 : decide (x95_2 < (x119001_1.length : Int)) = true := decide_eq_true c61
                clear c61
                by_cases c62 : 0 ≤ x95_2
                · rw [if_pos c62] at H
                  have c62b0 : decide (0 ≤ x95_2) = true := decide_eq_true c62
                  clear c62
                  by_cases c63 : x95_2 < (x119001_1.length : Int)
                  · rw [if_pos c63] at H
                    have c63b0 : decide (x95_2 < (x119001_1.length : Int)) = true := decide_eq_true c63
                    clear c63
                    by_cases c64 : (rd x119001_1 x95_2) < (-4294967296)
                    · rw [if_pos c64] at H
                      have c64b0 : decide ((rd x119001_1 x95_2) < (-4294967296)) = true := decide_eq_true c64
                      clear c64
                      simp only [Option.some.injEq, Prod.mk.injEq] at H
                      obtain ⟨rfl, rfl, rfl⟩ := H
                      have p125 : 0 ≤ (x95_2 : Int) := of_decide_eq_true (by first | (with_reducible assumption) | assumption)
                      have q125 : x95_2 < (x119001_1.length : Int) := of_decide_eq_true (by first | (with_reducible assumption) | assumption)
                      obtain ⟨ad125, e125, hx125_0⟩ := Kd.at_int (Kd.R_reads' HO_93.out).2.2 x95_2 p125 q125
                      cases e125
                      replace p125 := eq_true p125
                      replace q125 := eq_true q125
                      have hnb65 := NB112_111.out
                      have hnc65 := NB111_112.out
                      have hnb66 := NB112_118.out
                      have hnc66 := NB118_112.out
                      obtain ⟨hcz67_0, hcz67_1, hfz67_0, hfz67_1⟩ := sqc2 BK112
                      go_wp2
                      repeat (go_quiet (fail); try go_wp2)
                      refine bodyPost_ret (results_ct rfl _ _ gb112 41 #[.int .i64 0, .slice none 0 0] (0, 0) _ rfl (by refine sqt ?_; refine blk_put (cs := #[.int .i64 0, .slice none 0 0]) ?_ 1 _ rfl; refine sqt ?_; refine blk_put (cs := #[.int .i64 x113000_2, .slice none 0 0]) ?_ 0 _ rfl; refine sqt ?_; exact BK112.out) Try.underlying41 rfl (by kernel_rfl)) rfl ?_
                      exact ⟨_, by first | rfl | (simp [errW_none, errW_some] <;> rfl) | (simp [*, errW_none, errW_some] <;> rfl), by first | exact Kd.R_nil _ _ _ _ _ | exact Kd.N_nil _ _ _ _ _ | exact Kd.V_nil _ _ _ _ _ | exact Kd.Q_nil _ _ _ _ _ | exact Kd.S_nil _ _ _ _ _, by repeat (first | (with_reducible first | exact HB.out | apply below_alloc | apply pw_below_drewN | apply below_drew1 | refine below_set ?_ GE111.out | refine below_set ?_ GE112.out | refine below_set ?_ GE118.out) | exact HB.out)⟩
                    · rw [if_neg c64] at H
                      have c64b0 : decide ((rd x119001_1 x95_2) < (-4294967296)) = false := decide_eq_false c64
                      clear c64
                      have H' := Aside0.mk H
                      clear H
                      have p125 : 0 ≤ (x95_2 : Int) := of_decide_eq_true (by first | (with_reducible assumption) | assumption)
                      have q125 : x95_2 < (x119001_1.length : Int) := of_decide_eq_true (by first | (with_reducible assumption) | assumption)
                      obtain ⟨ad125, e125, hx125_0⟩ := Kd.at_int (Kd.R_reads' HO_93.out).2.2 x95_2 p125 q125
                      cases e125
                      replace p125 := eq_true p125
                      replace q125 := eq_true q125
                      go_wp2
                      repeat (go_quiet (fail); try go_wp2)
                      go_roundg k2
                      case measure => have := HK1.out; have := HK2.out; omega
                      case rel => exact ⟨(wrap64 (x95_2 + 1)), (x113000_2), (by first | rfl | (simp; done) | (simp [*]; done)), H', ⟨by have := HK1.out; have := HK2.out; omega⟩, ⟨by (with_reducible repeat (first | apply Kd.R_alloc | apply Kd.R_drewN | apply Kd.R_drew)); exact HO_93.out⟩, ⟨by (with_reducible repeat (first | apply Kd.R_alloc | apply Kd.R_drewN | apply Kd.R_drew)); exact HO_119001.out⟩, sqk BK111, sqk BK112, sqk BK118, sqh HB⟩
                  · rw [if_neg c63] at H
                    exact absurd H (by simp)
                · rw [if_neg c62] at H
                  exact absurd H (by simp)
              · rw [if_neg c61] at H
                have c61b0 : decide (x95_2 < (x119001_1.length : Int)) = false := decide_eq_false c61
                clear c61
                simp only [Option.some.injEq, Prod.mk.injEq] at H
                obtain ⟨rfl, rfl, rfl⟩ := H
                have hnb68 := NB118_111.out
                have hnc68 := NB111_118.out
                have hnb69 := NB118_112.out
                have hnc69 := NB112_118.out
                obtain ⟨hcz70_0, hcz70_1, hfz70_0, hfz70_1⟩ := sqc2 BK118
                have hnb71 := NB112_111.out
                have hnc71 := NB111_112.out
                obtain ⟨hcz72_0, hcz72_1, hfz72_0, hfz72_1⟩ := sqc2 BK112
                go_wp2
                repeat (go_quiet (fail); try go_wp2)
                refine bodyPost_ret (results_ct rfl _ _ gb112 41 #[.int .i64 t114, .slice Ao60 x119001_1.length co60] (0, 0) _ rfl (by refine sqt ?_; refine blk_put (cs := #[.int .i64 t114, .slice none 0 0]) ?_ 1 _ rfl; refine sqt ?_; refine blk_put (cs := #[.int .i64 x113000_2, .slice none 0 0]) ?_ 0 _ rfl; refine sqt ?_; exact BK112.out) Try.underlying41 rfl (by kernel_rfl)) rfl ?_
                exact ⟨_, by first | rfl | (simp [errW_none, errW_some] <;> rfl) | (simp [*, errW_none, errW_some] <;> rfl), by (with_reducible repeat (first | apply Kd.R_alloc | apply Kd.R_drewN | apply Kd.R_drew)); exact Kd.R_mono (Kd.R_far (p := ⟨gb112, 1, none⟩) (Kd.R_far (p := ⟨gb112, 0, none⟩) (Kd.R_types HO_119001.out BK112.out (by decide)) (fun _ hk => hk.2) (.int .i64 t114)) (fun _ hk => hk.2) (.slice Ao60 x119001_1.length co60)) (fun _ hk => trivial), by repeat (first | (with_reducible first | exact HB.out | apply below_alloc | apply pw_below_drewN | apply below_drew1 | refine below_set ?_ GE111.out | refine below_set ?_ GE112.out | refine below_set ?_ GE118.out) | exact HB.out)⟩
  · replace c3 := Bool.eq_false_iff.mpr c3
    subst c3
    have H1 : (some (0, ([] : List Int), false)) = some (r1, r2, r3) := by rw [if_neg (show ¬ (false = true) by decide)] at H; exact H
    clear H
    have H := H1
    clear H1
    simp only [Option.some.injEq, Prod.mk.injEq] at H
    obtain ⟨rfl, rfl, rfl⟩ := H
    go_enter Try.func25, Try.ntmps25
    go_wp2_with (first | ((with_reducible refine gate_dst (N := 1) rfl ?_); refine sqx 1 #[.int .i64 a0_0, .slice A0_1 l0_1.length c0_1] 41 ?_; intro gb111 hg w73 hbox hb; have BK111 := Aside0.mk (hbox); have GW111 := sqg HB hg; have GE111 := sqg HB hg; replace HB := sqs HB hb; clear hb hbox hg) | ((with_reducible refine gate_dst (N := 2) rfl ?_); refine sqx 2 #[.int .i64 0, .slice none 0 0] 41 ?_; intro gb112 hg w74 hbox hb; have BK112 := Aside0.mk (hbox); have GW112 := sqg HB hg; have GE112 := sqg HB hg; have NB111_112 := sqn BK111 hg; have NB112_111 := sqm BK111 hg; replace BK111 := sqb BK111 hb; replace HB := sqs HB hb; clear hb hbox hg; have hnb75 := NB111_112.out; have hnc75 := NB112_111.out; obtain ⟨hcz76_0, hcz76_1, hfz76_0, hfz76_1⟩ := sqc2 BK111) | (go_at_call 31; (with_reducible refine (impl_GapsOk.calls k a0_0 _ _ l0_1 false _ ?side1 ?side2 A2.out).mono ?_); (case side1 => repeat (first | exact (Kd.C_below HR0_1.out HB.out) | (with_reducible refine Kd.C_alloc ?_ _) | (with_reducible refine Kd.C_drewN ?_ _) | (with_reducible refine Kd.C_drew ?_))); (case side2 => exact HC0_1.out); rintro e w77 ⟨rfl, hb⟩; replace BK111 := sqb BK111 hb; replace BK112 := sqb BK112 hb; replace HB := sqs HB hb; (try clear hb); obtain ⟨hcz78_0, hcz78_1, hfz78_0, hfz78_1⟩ := sqc2 BK112))
    repeat (go_quiet (first | ((with_reducible refine gate_dst (N := 1) rfl ?_); refine sqx 1 #[.int .i64 a0_0, .slice A0_1 l0_1.length c0_1] 41 ?_; intro gb111 hg w73 hbox hb; have BK111 := Aside0.mk (hbox); have GW111 := sqg HB hg; have GE111 := sqg HB hg; replace HB := sqs HB hb; clear hb hbox hg) | ((with_reducible refine gate_dst (N := 2) rfl ?_); refine sqx 2 #[.int .i64 0, .slice none 0 0] 41 ?_; intro gb112 hg w74 hbox hb; have BK112 := Aside0.mk (hbox); have GW112 := sqg HB hg; have GE112 := sqg HB hg; have NB111_112 := sqn BK111 hg; have NB112_111 := sqm BK111 hg; replace BK111 := sqb BK111 hb; replace HB := sqs HB hb; clear hb hbox hg; have hnb75 := NB111_112.out; have hnc75 := NB112_111.out; obtain ⟨hcz76_0, hcz76_1, hfz76_0, hfz76_1⟩ := sqc2 BK111) | (go_at_call 31; (with_reducible refine (impl_GapsOk.calls k a0_0 _ _ l0_1 false _ ?side1 ?side2 A2.out).mono ?_); (case side1 => repeat (first | exact (Kd.C_below HR0_1.out HB.out) | (with_reducible refine Kd.C_alloc ?_ _) | (with_reducible refine Kd.C_drewN ?_ _) | (with_reducible refine Kd.C_drew ?_))); (case side2 => exact HC0_1.out); rintro e w77 ⟨rfl, hb⟩; replace BK111 := sqb BK111 hb; replace BK112 := sqb BK112 hb; replace HB := sqs HB hb; (try clear hb); obtain ⟨hcz78_0, hcz78_1, hfz78_0, hfz78_1⟩ := sqc2 BK112)); try go_wp2_with (first | ((with_reducible refine gate_dst (N := 1) rfl ?_); refine sqx 1 #[.int .i64 a0_0, .slice A0_1 l0_1.length c0_1] 41 ?_; intro gb111 hg w73 hbox hb; have BK111 := Aside0.mk (hbox); have GW111 := sqg HB hg; have GE111 := sqg HB hg; replace HB := sqs HB hb; clear hb hbox hg) | ((with_reducible refine gate_dst (N := 2) rfl ?_); refine sqx 2 #[.int .i64 0, .slice none 0 0] 41 ?_; intro gb112 hg w74 hbox hb; have BK112 := Aside0.mk (hbox); have GW112 := sqg HB hg; have GE112 := sqg HB hg; have NB111_112 := sqn BK111 hg; have NB112_111 := sqm BK111 hg; replace BK111 := sqb BK111 hb; replace HB := sqs HB hb; clear hb hbox hg; have hnb75 := NB111_112.out; have hnc75 := NB112_111.out; obtain ⟨hcz76_0, hcz76_1, hfz76_0, hfz76_1⟩ := sqc2 BK111) | (go_at_call 31; (with_reducible refine (impl_GapsOk.calls k a0_0 _ _ l0_1 false _ ?side1 ?side2 A2.out).mono ?_); (case side1 => repeat (first | exact (Kd.C_below HR0_1.out HB.out) | (with_reducible refine Kd.C_alloc ?_ _) | (with_reducible refine Kd.C_drewN ?_ _) | (with_reducible refine Kd.C_drew ?_))); (case side2 => exact HC0_1.out); rintro e w77 ⟨rfl, hb⟩; replace BK111 := sqb BK111 hb; replace BK112 := sqb BK112 hb; replace HB := sqs HB hb; (try clear hb); obtain ⟨hcz78_0, hcz78_1, hfz78_0, hfz78_1⟩ := sqc2 BK112)))
    refine bodyPost_ret (results_ct rfl _ _ gb112 41 #[.int .i64 0, .slice none 0 0] (0, 0) _ rfl (by refine sqt ?_; refine blk_put (cs := #[.int .i64 0, .slice none 0 0]) ?_ 1 _ rfl; refine sqt ?_; refine blk_put (cs := #[.int .i64 0, .slice none 0 0]) ?_ 0 _ rfl; refine sqt ?_; exact BK112.out) Try.underlying41 rfl (by kernel_rfl)) rfl ?_
    exact ⟨_, by first | rfl | (simp [errW_none, errW_some] <;> rfl) | (simp [*, errW_none, errW_some] <;> rfl), by first | exact Kd.R_nil _ _ _ _ _ | exact Kd.N_nil _ _ _ _ _ | exact Kd.V_nil _ _ _ _ _ | exact Kd.Q_nil _ _ _ _ _ | exact Kd.S_nil _ _ _ _ _, by repeat (first | (with_reducible first | exact HB.out | apply below_alloc | apply pw_below_drewN | apply below_drew1 | refine below_set ?_ GE111.out | refine below_set ?_ GE112.out) | exact HB.out)⟩

end Go.Proofs.Ytkekcenlleebeaa.PFnGapsBack
