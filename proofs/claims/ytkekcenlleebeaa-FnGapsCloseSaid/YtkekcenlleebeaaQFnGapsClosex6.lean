/- Functions of the program as plain Lean functions, and that calls of them come to what these tell. Conditions: those in each law. -/
import Derived.Test.YtkekcenlleebeaaSq
import Derived.Test.YtkekcenlleebeaaDFnGapsClose
import Derived.Test.YtkekcenlleebeaaQFnGapsClosex0
import Derived.Test.YtkekcenlleebeaaQFnGapsClosex5
namespace Go.Proofs.Ytkekcenlleebeaa.PFnGapsClose
open Go.RowKit Go.Proofs.Ytkekcenlleebeaa.Sq Go.Proofs.YtkekcenlleebeaaW.PrintWords Go.Proofs.YtkekcenlleebeaaW.PrintLast Go.Proofs.YtkekcenlleebeaaW.PrintMore
attribute [local go_sem] max2_int min2_int max_two min_two max_three min_three max_four min_four   -- for this text's walks alone
set_option linter.unusedVariables false
set_option linter.unusedSimpArgs false

/-! ### impl_GapsClose: function 25 -/
set_option maxHeartbeats 8000000 in
set_option maxRecDepth 100000 in
theorem impl_GapsClose.calls (k : Nat) (a0_0 : Int) (A0_1 : Option Addr) (c0_1 : Nat) (l0_1 : List Int) (r1 : Int) (r2 : List Int) (r3 : Bool) (w : World) (hr0_1 : Kd.C (Kd.int .i64) w A0_1 l0_1.length l0_1) (hc0_1 : l0_1.length ≤ c0_1) (h : impl_GapsClose.f k a0_0 l0_1 = some (r1, r2, r3)) :
  Calls Try.prog 25 #[.agg #[.int .i64 a0_0, .slice A0_1 l0_1.length c0_1]] w fun e w' => ∃ v1_ : Value, e = .returned (.tuple #[.agg #[.int .i64 r1, v1_], .bool r3]) ∧ Kd.R (Kd.int .i64) 3 w' w.heap.size (fun _ => True) v1_ r2 ∧ Below w.heap.size w w' := by
 have hu41 := Try.underlying41
 have HR0_1 := Aside0.mk hr0_1
 have HC0_1 := Aside0.mk hc0_1
 clear hr0_1 hc0_1
 have HB := Aside0.mk (Below.refl w.heap.size w)
 have H : ((impl_GapsOk.f k a0_0 l0_1).bind fun t238 => (if t238 = true then ((impl_Gaps_clone.f a0_0 l0_1).bind fun bt239 => (impl_GapsClose.l0 k (wrap64 (bt239.1 + 1)) (wrap64 (bt239.1 + 1)) 0 bt239.1 bt239.2)) else (some (0, ([] : List Int), false)))) = some (r1, r2, r3) := h
 clear h
 replace H := sqbi H
 obtain ⟨t238, A2, H⟩ := H
 replace H : (if t238 = true then ((impl_Gaps_clone.f a0_0 l0_1).bind fun bt239 => (impl_GapsClose.l0 k (wrap64 (bt239.1 + 1)) (wrap64 (bt239.1 + 1)) 0 bt239.1 bt239.2)) else (some (0, ([] : List Int), false))) = some (r1, r2, r3) := H
 rcases sqI (t238 = true) with c3 | c3
 ·replace c3 := Bool.eq_false_iff.mpr c3
  subst c3
  have H1 : (some (0, ([] : List Int), false)) = some (r1, r2, r3) := by rw [if_neg (show ¬ (false = true) by decide)] at H; exact H
  clear H
  have H := H1
  clear H1
  simp only [Option.some.injEq, Prod.mk.injEq] at H
  obtain ⟨rfl, rfl, rfl⟩ := H
  go_enter Try.func25, Try.ntmps25
  go_wp2_with (first | ((with_reducible refine gate_dst (N := 1) rfl ?_); refine sqx 1 #[.int .i64 a0_0, .slice A0_1 l0_1.length c0_1] 41 ?_; intro gb236 hg w73 hbox hb; have BK236 := Aside0.mk hbox; have GW236 := sqg HB hg; have GE236 := sqg HB hg; replace HB := sqs HB hb; clear hb hbox hg) | ((with_reducible refine gate_dst (N := 2) rfl ?_); refine sqx 2 #[.int .i64 0, .slice none 0 0] 41 ?_; intro gb237 hg w74 hbox hb; have BK237 := Aside0.mk hbox; have GW237 := sqg HB hg; have GE237 := sqg HB hg; have NB236_237 := sqn BK236 hg; have NB237_236 := sqm BK236 hg; replace BK236 := sqb BK236 hb; replace HB := sqs HB hb; clear hb hbox hg; have hnb75 := NB236_237.out; have hnc75 := NB237_236.out; obtain ⟨hcz76_0, hcz76_1, hfz76_0, hfz76_1⟩ := sqc2 BK236) | (go_at_call 31; (with_reducible refine (impl_GapsOk.calls k a0_0 _ _ l0_1 false _ ?side1 ?side2 A2.out).mono ?_); (case side1 => exact sqC (Kd.C_below HR0_1.out HB.out)); (case side2 => exact HC0_1.out); rintro e w77 ⟨rfl, hb⟩; refine sqM2 BK236 BK237 hb ?_; clear BK236 BK237; intro BK236 BK237; replace HB := sqs HB hb; (try clear hb); obtain ⟨hcz78_0, hcz78_1, hfz78_0, hfz78_1⟩ := sqc2 BK237))
  repeat (go_quiet (first | ((with_reducible refine gate_dst (N := 1) rfl ?_); refine sqx 1 #[.int .i64 a0_0, .slice A0_1 l0_1.length c0_1] 41 ?_; intro gb236 hg w73 hbox hb; have BK236 := Aside0.mk hbox; have GW236 := sqg HB hg; have GE236 := sqg HB hg; replace HB := sqs HB hb; clear hb hbox hg) | ((with_reducible refine gate_dst (N := 2) rfl ?_); refine sqx 2 #[.int .i64 0, .slice none 0 0] 41 ?_; intro gb237 hg w74 hbox hb; have BK237 := Aside0.mk hbox; have GW237 := sqg HB hg; have GE237 := sqg HB hg; have NB236_237 := sqn BK236 hg; have NB237_236 := sqm BK236 hg; replace BK236 := sqb BK236 hb; replace HB := sqs HB hb; clear hb hbox hg; have hnb75 := NB236_237.out; have hnc75 := NB237_236.out; obtain ⟨hcz76_0, hcz76_1, hfz76_0, hfz76_1⟩ := sqc2 BK236) | (go_at_call 31; (with_reducible refine (impl_GapsOk.calls k a0_0 _ _ l0_1 false _ ?side1 ?side2 A2.out).mono ?_); (case side1 => exact sqC (Kd.C_below HR0_1.out HB.out)); (case side2 => exact HC0_1.out); rintro e w77 ⟨rfl, hb⟩; refine sqM2 BK236 BK237 hb ?_; clear BK236 BK237; intro BK236 BK237; replace HB := sqs HB hb; (try clear hb); obtain ⟨hcz78_0, hcz78_1, hfz78_0, hfz78_1⟩ := sqc2 BK237)); try go_wp2_with (first | ((with_reducible refine gate_dst (N := 1) rfl ?_); refine sqx 1 #[.int .i64 a0_0, .slice A0_1 l0_1.length c0_1] 41 ?_; intro gb236 hg w73 hbox hb; have BK236 := Aside0.mk hbox; have GW236 := sqg HB hg; have GE236 := sqg HB hg; replace HB := sqs HB hb; clear hb hbox hg) | ((with_reducible refine gate_dst (N := 2) rfl ?_); refine sqx 2 #[.int .i64 0, .slice none 0 0] 41 ?_; intro gb237 hg w74 hbox hb; have BK237 := Aside0.mk hbox; have GW237 := sqg HB hg; have GE237 := sqg HB hg; have NB236_237 := sqn BK236 hg; have NB237_236 := sqm BK236 hg; replace BK236 := sqb BK236 hb; replace HB := sqs HB hb; clear hb hbox hg; have hnb75 := NB236_237.out; have hnc75 := NB237_236.out; obtain ⟨hcz76_0, hcz76_1, hfz76_0, hfz76_1⟩ := sqc2 BK236) | (go_at_call 31; (with_reducible refine (impl_GapsOk.calls k a0_0 _ _ l0_1 false _ ?side1 ?side2 A2.out).mono ?_); (case side1 => exact sqC (Kd.C_below HR0_1.out HB.out)); (case side2 => exact HC0_1.out); rintro e w77 ⟨rfl, hb⟩; refine sqM2 BK236 BK237 hb ?_; clear BK236 BK237; intro BK236 BK237; replace HB := sqs HB hb; (try clear hb); obtain ⟨hcz78_0, hcz78_1, hfz78_0, hfz78_1⟩ := sqc2 BK237)))
  refine bodyPost_ret (results_ct rfl _ _ gb237 41 #[.int .i64 0, .slice none 0 0] (0, 0) _ rfl (by refine sqt ?_; refine blk_put (cs := #[.int .i64 0, .slice none 0 0]) ?_ 1 _ rfl; refine sqt ?_; refine blk_put (cs := #[.int .i64 0, .slice none 0 0]) ?_ 0 _ rfl; refine sqt ?_; exact BK237.out) Try.underlying41 rfl (by kernel_rfl)) rfl ?_
  exact ⟨_, by first | rfl | (simp [errW_none, errW_some] <;> rfl) | (simp [*, errW_none, errW_some] <;> rfl), by first | exact Kd.R_nil _ _ _ _ _ | exact Kd.N_nil _ _ _ _ _ | exact Kd.V_nil _ _ _ _ _ | exact Kd.Q_nil _ _ _ _ _ | exact Kd.S_nil _ _ _ _ _, by repeat (first | (with_reducible first | exact HB.out | apply below_alloc | apply pw_below_drewN | apply below_drew1 | refine below_set ?_ GE236.out | refine below_set ?_ GE237.out) | exact HB.out)⟩
 subst c3
 have H1 : ((impl_Gaps_clone.f a0_0 l0_1).bind fun bt239 => (impl_GapsClose.l0 k (wrap64 (bt239.1 + 1)) (wrap64 (bt239.1 + 1)) 0 bt239.1 bt239.2)) = some (r1, r2, r3) := by rw [if_pos rfl] at H; exact H
 clear H
 have H := H1
 clear H1
 replace H := sqbi H
 obtain ⟨⟨t239, t240⟩, A4, H⟩ := H
 replace H : (impl_GapsClose.l0 k (wrap64 (t239 + 1)) (wrap64 (t239 + 1)) 0 t239 t240) = some (r1, r2, r3) := H
 have H' := Aside0.mk H
 clear H
 go_enter Try.func25, Try.ntmps25
 go_wp2_with (first | ((with_reducible refine gate_dst (N := 1) rfl ?_); refine sqx 1 #[.int .i64 a0_0, .slice A0_1 l0_1.length c0_1] 41 ?_; intro gb236 hg w5 hbox hb; have BK236 := Aside0.mk hbox; have GW236 := sqg HB hg; have GE236 := sqg HB hg; replace HB := sqs HB hb; clear hb hbox hg) | ((with_reducible refine gate_dst (N := 2) rfl ?_); refine sqx 2 #[.int .i64 0, .slice none 0 0] 41 ?_; intro gb237 hg w6 hbox hb; have BK237 := Aside0.mk hbox; have GW237 := sqg HB hg; have GE237 := sqg HB hg; have NB236_237 := sqn BK236 hg; have NB237_236 := sqm BK236 hg; replace BK236 := sqb BK236 hb; replace HB := sqs HB hb; clear hb hbox hg; have hnb7 := NB236_237.out; have hnc7 := NB237_236.out; obtain ⟨hcz8_0, hcz8_1, hfz8_0, hfz8_1⟩ := sqc2 BK236) | (go_at_call 31; (with_reducible refine (impl_GapsOk.calls k a0_0 _ _ l0_1 true _ ?side1 ?side2 A2.out).mono ?_); (case side1 => exact sqC (Kd.C_below HR0_1.out HB.out)); (case side2 => exact HC0_1.out); rintro e w9 ⟨rfl, hb⟩; refine sqM2 BK236 BK237 hb ?_; clear BK236 BK237; intro BK236 BK237; replace HB := sqs HB hb; (try clear hb); obtain ⟨hcz10_0, hcz10_1, hfz10_0, hfz10_1⟩ := sqc2 BK236) | (go_at_call 111; (with_reducible refine (impl_Gaps_clone.calls a0_0 _ _ l0_1 t239 t240 _ ?side1 ?side2 A4.out).mono ?_); (case side1 => exact sqC (Kd.C_below HR0_1.out HB.out)); (case side2 => exact HC0_1.out); rintro e w11 ⟨v241, rfl, ho0, hb⟩; have HO242 := Aside0.mk (Kd.R_lower ho0 (below_size (sqB HB))); refine sqM2 BK236 BK237 hb ?_; clear BK236 BK237; intro BK236 BK237; replace HB := sqs HB hb; (try clear hb); (try clear hb2); (try clear hk); (try clear hi); (try clear ho0)) | ((with_reducible refine gate_dst (N := 4) rfl ?_); refine sqx 4 #[.int .i64 0, .slice none 0 0] 41 ?_; intro gb243 hg w12 hbox hb; have n0_ := Aside0.mk (Kd.R_below (sqy HO242.out) hb); have n1_ := sqb BK236 hb; have n2_ := sqb BK237 hb; have n3_ := sqs HB hb; have n4_ := Aside0.mk (hbox); have n5_ := sqg HB hg; have n6_ := sqg HB hg; have n7_ := sqn BK236 hg; have n8_ := sqm BK236 hg; have n9_ := sqn BK237 hg; have n10_ := sqm BK237 hg; clear HO242; clear BK236; clear BK237; clear HB; have HO242 := n0_; have BK236 := n1_; have BK237 := n2_; have HB := n3_; have BK243 := n4_; have GW243 := n5_; have GE243 := n6_; have NB236_243 := n7_; have NB243_236 := n8_; have NB237_243 := n9_; have NB243_237 := n10_; clear n0_ n1_ n2_ n3_ n4_ n5_ n6_ n7_ n8_ n9_ n10_; clear hb hbox hg; have hnb13 := NB243_236.out; have hnc13 := NB236_243.out; have hnb14 := NB243_237.out; have hnc14 := NB237_243.out; obtain ⟨hcz15_0, hcz15_1, hfz15_0, hfz15_1⟩ := sqc2 BK243; obtain ⟨Ao16, co16, eo16⟩ := Kd.R_slice HO242.out; subst eo16))
 repeat (go_quiet (first | ((with_reducible refine gate_dst (N := 1) rfl ?_); refine sqx 1 #[.int .i64 a0_0, .slice A0_1 l0_1.length c0_1] 41 ?_; intro gb236 hg w5 hbox hb; have BK236 := Aside0.mk hbox; have GW236 := sqg HB hg; have GE236 := sqg HB hg; replace HB := sqs HB hb; clear hb hbox hg) | ((with_reducible refine gate_dst (N := 2) rfl ?_); refine sqx 2 #[.int .i64 0, .slice none 0 0] 41 ?_; intro gb237 hg w6 hbox hb; have BK237 := Aside0.mk hbox; have GW237 := sqg HB hg; have GE237 := sqg HB hg; have NB236_237 := sqn BK236 hg; have NB237_236 := sqm BK236 hg; replace BK236 := sqb BK236 hb; replace HB := sqs HB hb; clear hb hbox hg; have hnb7 := NB236_237.out; have hnc7 := NB237_236.out; obtain ⟨hcz8_0, hcz8_1, hfz8_0, hfz8_1⟩ := sqc2 BK236) | (go_at_call 31; (with_reducible refine (impl_GapsOk.calls k a0_0 _ _ l0_1 true _ ?side1 ?side2 A2.out).mono ?_); (case side1 => exact sqC (Kd.C_below HR0_1.out HB.out)); (case side2 => exact HC0_1.out); rintro e w9 ⟨rfl, hb⟩; refine sqM2 BK236 BK237 hb ?_; clear BK236 BK237; intro BK236 BK237; replace HB := sqs HB hb; (try clear hb); obtain ⟨hcz10_0, hcz10_1, hfz10_0, hfz10_1⟩ := sqc2 BK236) | (go_at_call 111; (with_reducible refine (impl_Gaps_clone.calls a0_0 _ _ l0_1 t239 t240 _ ?side1 ?side2 A4.out).mono ?_); (case side1 => exact sqC (Kd.C_below HR0_1.out HB.out)); (case side2 => exact HC0_1.out); rintro e w11 ⟨v241, rfl, ho0, hb⟩; have HO242 := Aside0.mk (Kd.R_lower ho0 (below_size (sqB HB))); refine sqM2 BK236 BK237 hb ?_; clear BK236 BK237; intro BK236 BK237; replace HB := sqs HB hb; (try clear hb); (try clear hb2); (try clear hk); (try clear hi); (try clear ho0)) | ((with_reducible refine gate_dst (N := 4) rfl ?_); refine sqx 4 #[.int .i64 0, .slice none 0 0] 41 ?_; intro gb243 hg w12 hbox hb; have n0_ := Aside0.mk (Kd.R_below (sqy HO242.out) hb); have n1_ := sqb BK236 hb; have n2_ := sqb BK237 hb; have n3_ := sqs HB hb; have n4_ := Aside0.mk (hbox); have n5_ := sqg HB hg; have n6_ := sqg HB hg; have n7_ := sqn BK236 hg; have n8_ := sqm BK236 hg; have n9_ := sqn BK237 hg; have n10_ := sqm BK237 hg; clear HO242; clear BK236; clear BK237; clear HB; have HO242 := n0_; have BK236 := n1_; have BK237 := n2_; have HB := n3_; have BK243 := n4_; have GW243 := n5_; have GE243 := n6_; have NB236_243 := n7_; have NB243_236 := n8_; have NB237_243 := n9_; have NB243_237 := n10_; clear n0_ n1_ n2_ n3_ n4_ n5_ n6_ n7_ n8_ n9_ n10_; clear hb hbox hg; have hnb13 := NB243_236.out; have hnc13 := NB236_243.out; have hnb14 := NB243_237.out; have hnc14 := NB237_243.out; obtain ⟨hcz15_0, hcz15_1, hfz15_0, hfz15_1⟩ := sqc2 BK243; obtain ⟨Ao16, co16, eo16⟩ := Kd.R_slice HO242.out; subst eo16)); try go_wp2_with (first | ((with_reducible refine gate_dst (N := 1) rfl ?_); refine sqx 1 #[.int .i64 a0_0, .slice A0_1 l0_1.length c0_1] 41 ?_; intro gb236 hg w5 hbox hb; have BK236 := Aside0.mk hbox; have GW236 := sqg HB hg; have GE236 := sqg HB hg; replace HB := sqs HB hb; clear hb hbox hg) | ((with_reducible refine gate_dst (N := 2) rfl ?_); refine sqx 2 #[.int .i64 0, .slice none 0 0] 41 ?_; intro gb237 hg w6 hbox hb; have BK237 := Aside0.mk hbox; have GW237 := sqg HB hg; have GE237 := sqg HB hg; have NB236_237 := sqn BK236 hg; have NB237_236 := sqm BK236 hg; replace BK236 := sqb BK236 hb; replace HB := sqs HB hb; clear hb hbox hg; have hnb7 := NB236_237.out; have hnc7 := NB237_236.out; obtain ⟨hcz8_0, hcz8_1, hfz8_0, hfz8_1⟩ := sqc2 BK236) | (go_at_call 31; (with_reducible refine (impl_GapsOk.calls k a0_0 _ _ l0_1 true _ ?side1 ?side2 A2.out).mono ?_); (case side1 => exact sqC (Kd.C_below HR0_1.out HB.out)); (case side2 => exact HC0_1.out); rintro e w9 ⟨rfl, hb⟩; refine sqM2 BK236 BK237 hb ?_; clear BK236 BK237; intro BK236 BK237; replace HB := sqs HB hb; (try clear hb); obtain ⟨hcz10_0, hcz10_1, hfz10_0, hfz10_1⟩ := sqc2 BK236) | (go_at_call 111; (with_reducible refine (impl_Gaps_clone.calls a0_0 _ _ l0_1 t239 t240 _ ?side1 ?side2 A4.out).mono ?_); (case side1 => exact sqC (Kd.C_below HR0_1.out HB.out)); (case side2 => exact HC0_1.out); rintro e w11 ⟨v241, rfl, ho0, hb⟩; have HO242 := Aside0.mk (Kd.R_lower ho0 (below_size (sqB HB))); refine sqM2 BK236 BK237 hb ?_; clear BK236 BK237; intro BK236 BK237; replace HB := sqs HB hb; (try clear hb); (try clear hb2); (try clear hk); (try clear hi); (try clear ho0)) | ((with_reducible refine gate_dst (N := 4) rfl ?_); refine sqx 4 #[.int .i64 0, .slice none 0 0] 41 ?_; intro gb243 hg w12 hbox hb; have n0_ := Aside0.mk (Kd.R_below (sqy HO242.out) hb); have n1_ := sqb BK236 hb; have n2_ := sqb BK237 hb; have n3_ := sqs HB hb; have n4_ := Aside0.mk (hbox); have n5_ := sqg HB hg; have n6_ := sqg HB hg; have n7_ := sqn BK236 hg; have n8_ := sqm BK236 hg; have n9_ := sqn BK237 hg; have n10_ := sqm BK237 hg; clear HO242; clear BK236; clear BK237; clear HB; have HO242 := n0_; have BK236 := n1_; have BK237 := n2_; have HB := n3_; have BK243 := n4_; have GW243 := n5_; have GE243 := n6_; have NB236_243 := n7_; have NB243_236 := n8_; have NB237_243 := n9_; have NB243_237 := n10_; clear n0_ n1_ n2_ n3_ n4_ n5_ n6_ n7_ n8_ n9_ n10_; clear hb hbox hg; have hnb13 := NB243_236.out; have hnc13 := NB236_243.out; have hnb14 := NB243_237.out; have hnc14 := NB237_243.out; obtain ⟨hcz15_0, hcz15_1, hfz15_0, hfz15_1⟩ := sqc2 BK243; obtain ⟨Ao16, co16, eo16⟩ := Kd.R_slice HO242.out; subst eo16)))
 go_loopg [23] k (fun kq v23 w' => ∃ (x23_1 : Int) (x238000_1 : Int) (x244001_1 : List Int) (u244001 : Value), v23 = .int .i64 x23_1 ∧ Aside0 (impl_GapsClose.l0 kq (wrap64 (t239 + 1)) (wrap64 (t239 + 1)) x23_1 t239 x244001_1 = some (r1, r2, r3)) ∧ Aside0 (kq ≤ k) ∧ Aside0 (Kd.R (Kd.int .i64) 3 w' w.heap.size (fun _ => True) u244001 x244001_1) ∧ Aside0 (w'.heap[gb236]? = some (.cells #[.int .i64 a0_0, (.slice A0_1 l0_1.length c0_1)] 41 (0, 0))) ∧ Aside0 (w'.heap[gb237]? = some (.cells #[.int .i64 x238000_1, (.slice none 0 0)] 41 (0, 0))) ∧ Aside0 (w'.heap[gb243]? = some (.cells #[.int .i64 t239, u244001] 41 (0, 0))) ∧ Aside0 (Below w.heap.size w w'))
 case atStart => exact ⟨(0), (0), (t240), (.slice Ao16 t240.length co16), (by first | rfl | (simp; done) | (simp [*]; done)), H', ⟨Nat.le_refl _⟩, ⟨by (with_reducible repeat (first | apply Kd.R_alloc | apply Kd.R_drewN | apply Kd.R_drew)); exact Kd.R_mono (Kd.R_far (p := ⟨gb243, 1, none⟩) (Kd.R_far (p := ⟨gb243, 0, none⟩) (Kd.R_types HO242.out BK243.out (by decide)) (fun _ hk => hk.2) (.int .i64 t239)) (fun _ hk => hk.2) (.slice Ao16 t240.length co16)) (fun _ hk => trivial)⟩, ⟨by refine sqt ?_; refine blk_far ?_ NB236_243.out _; refine sqt ?_; refine blk_far ?_ NB236_243.out _; refine sqt ?_; exact BK236.out⟩, ⟨by refine sqt ?_; refine blk_far ?_ NB237_243.out _; refine sqt ?_; refine blk_far ?_ NB237_243.out _; refine sqt ?_; exact BK237.out⟩, ⟨by refine sqt ?_; refine blk_put (cs := #[.int .i64 t239, .slice none 0 0]) ?_ 1 _ rfl; refine sqt ?_; refine blk_put (cs := #[.int .i64 0, .slice none 0 0]) ?_ 0 _ rfl; refine sqt ?_; exact BK243.out⟩, sqh HB⟩
 case round =>
  clear H'
  obtain ⟨x23_1, x238000_1, x244001_1, u244001, rfl, HA, HK1, HO_244001, BK236, BK237, BK243, HB⟩ := hrel
  cases gk with
  | zero => exact absurd HA.out (by simp [impl_GapsClose.l0])
  | succ k1 =>
   have H := HA.out
   clear HA
   simp only [impl_GapsClose.l0] at H
   replace H := sqi H
   rcases H with ⟨c17, H⟩ | ⟨c17, H⟩
   ·have c17b0 := decide_eq_false c17
    clear c17
    have H' := Aside0.mk H
    clear H
    have hnb57 := NB243_236.out
    have hnc57 := NB236_243.out
    have hnb58 := NB243_237.out
    have hnc58 := NB237_243.out
    obtain ⟨hcz59_0, hcz59_1, hfz59_0, hfz59_1⟩ := sqc2 BK243
    obtain ⟨Ao60, co60, eo60⟩ := Kd.R_slice HO_244001.out
    subst eo60
    go_wp2
    repeat (go_quiet (fail); try go_wp2)
    go_loopg [95] k1 (fun kq v95 w' => ∃ (x95_2 : Int) (x238000_2 : Int), v95 = .int .i64 x95_2 ∧ Aside0 (impl_GapsClose.l4 kq x244001_1 (x244001_1.length : Int) x95_2 t239 x244001_1 = some (r1, r2, r3)) ∧ Aside0 (kq ≤ k1) ∧ Aside0 (Kd.R (Kd.int .i64) 3 w' w.heap.size (fun _ => True) (.slice Ao60 x244001_1.length co60) x244001_1) ∧ Aside0 (Kd.R (Kd.int .i64) 3 w' w.heap.size (fun _ => True) (.slice Ao60 x244001_1.length co60) x244001_1) ∧ Aside0 (w'.heap[gb236]? = some (.cells #[.int .i64 a0_0, (.slice A0_1 l0_1.length c0_1)] 41 (0, 0))) ∧ Aside0 (w'.heap[gb237]? = some (.cells #[.int .i64 x238000_2, (.slice none 0 0)] 41 (0, 0))) ∧ Aside0 (w'.heap[gb243]? = some (.cells #[.int .i64 t239, (.slice Ao60 x244001_1.length co60)] 41 (0, 0))) ∧ Aside0 (Below w.heap.size w w'))
    case atStart => exact ⟨(0), (x238000_1), (by first | rfl | (simp; done) | (simp [*]; done)), H', ⟨Nat.le_refl _⟩, ⟨sqy HO_244001.out⟩, ⟨sqy HO_244001.out⟩, sqk BK236, sqk BK237, sqk BK243, sqh HB⟩
    case round =>
     clear H'
     obtain ⟨x95_2, x238000_2, rfl, HA, HK2, HO_93, HO_244001, BK236, BK237, BK243, HB⟩ := hrel
     cases gk with
     | zero => exact absurd HA.out (by simp [impl_GapsClose.l4])
     | succ k2 =>
      have H := HA.out
      clear HA
      simp only [impl_GapsClose.l4] at H
      replace H := sqi H
      rcases H with ⟨c61, H⟩ | ⟨c61, H⟩
      ·have c61b0 := decide_eq_false c61
       clear c61
       simp only [Option.some.injEq, Prod.mk.injEq] at H
       obtain ⟨rfl, rfl, rfl⟩ := H
       have hnb68 := NB243_236.out
       have hnc68 := NB236_243.out
       have hnb69 := NB243_237.out
       have hnc69 := NB237_243.out
       obtain ⟨hcz70_0, hcz70_1, hfz70_0, hfz70_1⟩ := sqc2 BK243
       have hnb71 := NB237_236.out
       have hnc71 := NB236_237.out
       obtain ⟨hcz72_0, hcz72_1, hfz72_0, hfz72_1⟩ := sqc2 BK237
       go_wp2
       repeat (go_quiet (fail); try go_wp2)
       refine bodyPost_ret (results_ct rfl _ _ gb237 41 #[.int .i64 t239, .slice Ao60 x244001_1.length co60] (0, 0) _ rfl (by refine sqt ?_; refine blk_put (cs := #[.int .i64 t239, .slice none 0 0]) ?_ 1 _ rfl; refine sqt ?_; refine blk_put (cs := #[.int .i64 x238000_2, .slice none 0 0]) ?_ 0 _ rfl; refine sqt ?_; exact BK237.out) Try.underlying41 rfl (by kernel_rfl)) rfl ?_
       exact ⟨_, by first | rfl | (simp [errW_none, errW_some] <;> rfl) | (simp [*, errW_none, errW_some] <;> rfl), by (with_reducible repeat (first | apply Kd.R_alloc | apply Kd.R_drewN | apply Kd.R_drew)); exact Kd.R_mono (Kd.R_far (p := ⟨gb237, 1, none⟩) (Kd.R_far (p := ⟨gb237, 0, none⟩) (Kd.R_types HO_244001.out BK237.out (by decide)) (fun _ hk => hk.2) (.int .i64 t239)) (fun _ hk => hk.2) (.slice Ao60 x244001_1.length co60)) (fun _ hk => trivial), by repeat (first | (with_reducible first | exact HB.out | apply below_alloc | apply pw_below_drewN | apply below_drew1 | refine below_set ?_ GE236.out | refine below_set ?_ GE237.out | refine below_set ?_ GE243.out) | exact HB.out)⟩
      have c61b0 := decide_eq_true c61
      clear c61
      replace H := sqi H
      rcases H with ⟨c62, H⟩ | ⟨c62, H⟩
      ·exact absurd H (by simp)
      have c62b0 := decide_eq_true c62
      clear c62
      replace H := sqi H
      rcases H with ⟨c63, H⟩ | ⟨c63, H⟩
      ·exact absurd H (by simp)
      have c63b0 := decide_eq_true c63
      clear c63
      replace H := sqi H
      rcases H with ⟨c64, H⟩ | ⟨c64, H⟩
      ·have c64b0 := decide_eq_false c64
       clear c64
       have H' := Aside0.mk H
       clear H
       have p250 : 0 ≤ (x95_2 : Int) := sqd
       have q250 : x95_2 < (x244001_1.length : Int) := sqd
       obtain ⟨ad250, e250, hx250_0⟩ := Kd.at_int (Kd.R_reads' HO_93.out).2.2 x95_2 p250 q250
       cases e250
       replace p250 := eq_true p250
       replace q250 := eq_true q250
       go_wp2
       repeat (go_quiet (fail); try go_wp2)
       go_roundg k2
       case measure => have := HK1.out; have := HK2.out; omega
       case rel => exact ⟨(wrap64 (x95_2 + 1)), (x238000_2), (by first | rfl | (simp; done) | (simp [*]; done)), H', ⟨by have := HK1.out; have := HK2.out; omega⟩, ⟨sqy HO_93.out⟩, ⟨sqy HO_244001.out⟩, sqk BK236, sqk BK237, sqk BK243, sqh HB⟩
      have c64b0 := decide_eq_true c64
      clear c64
      simp only [Option.some.injEq, Prod.mk.injEq] at H
      obtain ⟨rfl, rfl, rfl⟩ := H
      have p250 : 0 ≤ (x95_2 : Int) := sqd
      have q250 : x95_2 < (x244001_1.length : Int) := sqd
      obtain ⟨ad250, e250, hx250_0⟩ := Kd.at_int (Kd.R_reads' HO_93.out).2.2 x95_2 p250 q250
      cases e250
      replace p250 := eq_true p250
      replace q250 := eq_true q250
      have hnb65 := NB237_236.out
      have hnc65 := NB236_237.out
      have hnb66 := NB237_243.out
      have hnc66 := NB243_237.out
      obtain ⟨hcz67_0, hcz67_1, hfz67_0, hfz67_1⟩ := sqc2 BK237
      go_wp2
      repeat (go_quiet (fail); try go_wp2)
      refine bodyPost_ret (results_ct rfl _ _ gb237 41 #[.int .i64 0, .slice none 0 0] (0, 0) _ rfl (by refine sqt ?_; refine blk_put (cs := #[.int .i64 0, .slice none 0 0]) ?_ 1 _ rfl; refine sqt ?_; refine blk_put (cs := #[.int .i64 x238000_2, .slice none 0 0]) ?_ 0 _ rfl; refine sqt ?_; exact BK237.out) Try.underlying41 rfl (by kernel_rfl)) rfl ?_
      exact ⟨_, by first | rfl | (simp [errW_none, errW_some] <;> rfl) | (simp [*, errW_none, errW_some] <;> rfl), by first | exact Kd.R_nil _ _ _ _ _ | exact Kd.N_nil _ _ _ _ _ | exact Kd.V_nil _ _ _ _ _ | exact Kd.Q_nil _ _ _ _ _ | exact Kd.S_nil _ _ _ _ _, by repeat (first | (with_reducible first | exact HB.out | apply below_alloc | apply pw_below_drewN | apply below_drew1 | refine below_set ?_ GE236.out | refine below_set ?_ GE237.out | refine below_set ?_ GE243.out) | exact HB.out)⟩
   have c17b0 := decide_eq_true c17
   clear c17
   have H' := Aside0.mk H
   clear H
   go_wp2
   repeat (go_quiet (fail); try go_wp2)
   go_loopg [27] k1 (fun kq v27 w' => ∃ (x27_2 : Int) (x244001_2 : List Int) (u244001 : Value), v27 = .int .i64 x27_2 ∧ Aside0 (impl_GapsClose.l1 kq (wrap64 (t239 + 1)) x23_1 (wrap64 (t239 + 1)) x23_1 (wrap64 (t239 + 1)) x27_2 t239 x244001_2 = some (r1, r2, r3)) ∧ Aside0 (kq ≤ k1) ∧ Aside0 (Kd.R (Kd.int .i64) 3 w' w.heap.size (fun _ => True) u244001 x244001_2) ∧ Aside0 (w'.heap[gb236]? = some (.cells #[.int .i64 a0_0, (.slice A0_1 l0_1.length c0_1)] 41 (0, 0))) ∧ Aside0 (w'.heap[gb237]? = some (.cells #[.int .i64 x238000_1, (.slice none 0 0)] 41 (0, 0))) ∧ Aside0 (w'.heap[gb243]? = some (.cells #[.int .i64 t239, u244001] 41 (0, 0))) ∧ Aside0 (Below w.heap.size w w'))
   case atStart => exact ⟨(0), (x244001_1), (u244001), (by first | rfl | (simp; done) | (simp [*]; done)), H', ⟨Nat.le_refl _⟩, ⟨sqy HO_244001.out⟩, sqk BK236, sqk BK237, sqk BK243, sqh HB⟩
   case round =>
    clear H'
    obtain ⟨x27_2, x244001_2, u244001, rfl, HA, HK2, HO_244001, BK236, BK237, BK243, HB⟩ := hrel
    cases gk with
    | zero => exact absurd HA.out (by simp [impl_GapsClose.l1])
    | succ k2 =>
     have H := HA.out
     clear HA
     simp only [impl_GapsClose.l1] at H
     replace H := sqi H
     rcases H with ⟨c18, H⟩ | ⟨c18, H⟩
     ·have c18b0 := decide_eq_false c18
      clear c18
      have H' := Aside0.mk H
      clear H
      go_wp2
      repeat (go_quiet (fail); try go_wp2)
      go_loopg [76] k2 (fun kq v76 w' => ∃ (x76_3 : Int) (x238000_3 : Int), v76 = .int .i64 x76_3 ∧ Aside0 (impl_GapsClose.l3 kq (wrap64 (t239 + 1)) (wrap64 (t239 + 1)) x23_1 (wrap64 (t239 + 1)) x76_3 t239 x244001_2 = some (r1, r2, r3)) ∧ Aside0 (kq ≤ k2) ∧ Aside0 (Kd.R (Kd.int .i64) 3 w' w.heap.size (fun _ => True) u244001 x244001_2) ∧ Aside0 (w'.heap[gb236]? = some (.cells #[.int .i64 a0_0, (.slice A0_1 l0_1.length c0_1)] 41 (0, 0))) ∧ Aside0 (w'.heap[gb237]? = some (.cells #[.int .i64 x238000_3, (.slice none 0 0)] 41 (0, 0))) ∧ Aside0 (w'.heap[gb243]? = some (.cells #[.int .i64 t239, u244001] 41 (0, 0))) ∧ Aside0 (Below w.heap.size w w'))
      case atStart => exact ⟨(0), (x238000_1), (by first | rfl | (simp; done) | (simp [*]; done)), H', ⟨Nat.le_refl _⟩, ⟨sqy HO_244001.out⟩, sqk BK236, sqk BK237, sqk BK243, sqh HB⟩
      case round =>
       clear H'
       obtain ⟨x76_3, x238000_3, rfl, HA, HK3, HO_244001, BK236, BK237, BK243, HB⟩ := hrel
       cases gk with
       | zero => exact absurd HA.out (by simp [impl_GapsClose.l3])
       | succ k3 =>
        have H := HA.out
        clear HA
        simp only [impl_GapsClose.l3] at H
        replace H := sqi H
        rcases H with ⟨c42, H⟩ | ⟨c42, H⟩
        ·have c42b0 := decide_eq_false c42
         clear c42
         have H' := Aside0.mk H
         clear H
         go_wp2
         repeat (go_quiet (fail); try go_wp2)
         go_roundg k3
         case measure => have := HK1.out; have := HK2.out; have := HK3.out; omega
         case rel => exact ⟨(wrap64 (x23_1 + 1)), (x238000_3), (x244001_2), (u244001), (by first | rfl | (simp; done) | (simp [*]; done)), H', ⟨by have := HK1.out; have := HK2.out; have := HK3.out; omega⟩, ⟨sqy HO_244001.out⟩, sqk BK236, sqk BK237, sqk BK243, sqh HB⟩
        have c42b0 := decide_eq_true c42
        clear c42
        obtain ⟨ji43, hji43⟩ : ∃ j_ : Int, (wrap64 ((wrap64 (x76_3 * (wrap64 (t239 + 1)))) + x76_3)) = j_ := ⟨_, rfl⟩
        replace H : (if 0 ≤ (ji43) then (if (ji43) < (x244001_2.length : Int) then (if (rd x244001_2 (ji43)) < 0 then (some (0, ([] : List Int), false)) else (impl_GapsClose.l3 k3 (wrap64 (t239 + 1)) (wrap64 (t239 + 1)) x23_1 (wrap64 (t239 + 1)) (wrap64 (x76_3 + 1)) t239 x244001_2)) else (none)) else (none)) = some (r1, r2, r3) := by first | (rw [hji43] at H; exact H) | (simp only [hji43] at H ⊢; exact H)
        have hji43w : (IntKind.i64.wrap ((wrap64 (x76_3 * (wrap64 (t239 + 1)))) + x76_3)) = ji43 := (i64_w _).trans hji43
        replace H := sqi H
        rcases H with ⟨c44, H⟩ | ⟨c44, H⟩
        ·exact absurd H (by simp)
        have c44b0 := decide_eq_true c44
        clear c44
        replace H := sqi H
        rcases H with ⟨c45, H⟩ | ⟨c45, H⟩
        ·exact absurd H (by simp)
        have c45b0 := decide_eq_true c45
        clear c45
        replace H := sqi H
        rcases H with ⟨c46, H⟩ | ⟨c46, H⟩
        ·have c46b0 := decide_eq_false c46
         clear c46
         have H' := Aside0.mk H
         clear H
         have hnb53 := NB243_236.out
         have hnc53 := NB236_243.out
         have hnb54 := NB243_237.out
         have hnc54 := NB237_243.out
         obtain ⟨hcz55_0, hcz55_1, hfz55_0, hfz55_1⟩ := sqc2 BK243
         obtain ⟨Ao56, co56, eo56⟩ := Kd.R_slice HO_244001.out
         subst eo56
         have p249 : 0 ≤ ((ji43) : Int) := sqd
         have q249 : (ji43) < (x244001_2.length : Int) := sqd
         obtain ⟨ad249, e249, hx249_0⟩ := Kd.at_int (Kd.R_reads' HO_244001.out).2.2 (ji43) p249 q249
         cases e249
         replace p249 := eq_true p249
         replace q249 := eq_true q249
         go_wp2
         repeat (go_quiet (fail); try go_wp2)
         go_roundg k3
         case measure => have := HK1.out; have := HK2.out; have := HK3.out; omega
         case rel => exact ⟨(wrap64 (x76_3 + 1)), (x238000_3), (by first | rfl | (simp; done) | (simp [*]; done)), H', ⟨by have := HK1.out; have := HK2.out; have := HK3.out; omega⟩, ⟨sqy HO_244001.out⟩, sqk BK236, sqk BK237, sqk BK243, sqh HB⟩
        have c46b0 := decide_eq_true c46
        clear c46
        simp only [Option.some.injEq, Prod.mk.injEq] at H
        obtain ⟨rfl, rfl, rfl⟩ := H
        have hnb47 := NB243_236.out
        have hnc47 := NB236_243.out
        have hnb48 := NB243_237.out
        have hnc48 := NB237_243.out
        obtain ⟨hcz49_0, hcz49_1, hfz49_0, hfz49_1⟩ := sqc2 BK243
        obtain ⟨Ao50, co50, eo50⟩ := Kd.R_slice HO_244001.out
        subst eo50
        have p249 : 0 ≤ ((ji43) : Int) := sqd
        have q249 : (ji43) < (x244001_2.length : Int) := sqd
        obtain ⟨ad249, e249, hx249_0⟩ := Kd.at_int (Kd.R_reads' HO_244001.out).2.2 (ji43) p249 q249
        cases e249
        replace p249 := eq_true p249
        replace q249 := eq_true q249
        have hnb51 := NB237_236.out
        have hnc51 := NB236_237.out
        obtain ⟨hcz52_0, hcz52_1, hfz52_0, hfz52_1⟩ := sqc2 BK237
        go_wp2
        repeat (go_quiet (fail); try go_wp2)
        refine bodyPost_ret (results_ct rfl _ _ gb237 41 #[.int .i64 0, .slice none 0 0] (0, 0) _ rfl (by refine sqt ?_; refine blk_put (cs := #[.int .i64 0, .slice none 0 0]) ?_ 1 _ rfl; refine sqt ?_; refine blk_put (cs := #[.int .i64 x238000_3, .slice none 0 0]) ?_ 0 _ rfl; refine sqt ?_; exact BK237.out) Try.underlying41 rfl (by kernel_rfl)) rfl ?_
        exact ⟨_, by first | rfl | (simp [errW_none, errW_some] <;> rfl) | (simp only [← hji43]; first | rfl | (simp [errW_none, errW_some] <;> rfl)) | (simp [*, errW_none, errW_some] <;> rfl), by first | exact Kd.R_nil _ _ _ _ _ | exact Kd.N_nil _ _ _ _ _ | exact Kd.V_nil _ _ _ _ _ | exact Kd.Q_nil _ _ _ _ _ | exact Kd.S_nil _ _ _ _ _, by repeat (first | (with_reducible first | exact HB.out | apply below_alloc | apply pw_below_drewN | apply below_drew1 | refine below_set ?_ GE236.out | refine below_set ?_ GE237.out | refine below_set ?_ GE243.out) | exact HB.out)⟩
     have c18b0 := decide_eq_true c18
     clear c18
     have H' := Aside0.mk H
     clear H
     go_wp2
     repeat (go_quiet (fail); try go_wp2)
     go_loopg [31] k2 (fun kq v31 w' => ∃ (x31_3 : Int) (x244001_3 : List Int) (u244001 : Value), v31 = .int .i64 x31_3 ∧ Aside0 (impl_GapsClose.l2 kq (wrap64 (t239 + 1)) x23_1 x27_2 (wrap64 (t239 + 1)) x23_1 (wrap64 (t239 + 1)) x27_2 (wrap64 (t239 + 1)) x31_3 t239 x244001_3 = some (r1, r2, r3)) ∧ Aside0 (kq ≤ k2) ∧ Aside0 (Kd.R (Kd.int .i64) 3 w' w.heap.size (fun _ => True) u244001 x244001_3) ∧ Aside0 (w'.heap[gb236]? = some (.cells #[.int .i64 a0_0, (.slice A0_1 l0_1.length c0_1)] 41 (0, 0))) ∧ Aside0 (w'.heap[gb237]? = some (.cells #[.int .i64 x238000_1, (.slice none 0 0)] 41 (0, 0))) ∧ Aside0 (w'.heap[gb243]? = some (.cells #[.int .i64 t239, u244001] 41 (0, 0))) ∧ Aside0 (Below w.heap.size w w'))
     case atStart => exact ⟨(0), (x244001_2), (u244001), (by first | rfl | (simp; done) | (simp [*]; done)), H', ⟨Nat.le_refl _⟩, ⟨sqy HO_244001.out⟩, sqk BK236, sqk BK237, sqk BK243, sqh HB⟩
     case round =>
      clear H'
      obtain ⟨x31_3, x244001_3, u244001, rfl, HA, HK3, HO_244001, BK236, BK237, BK243, HB⟩ := hrel
      cases gk with
      | zero => exact absurd HA.out (by simp [impl_GapsClose.l2])
      | succ k3 =>
       have H := HA.out
       clear HA
       simp only [impl_GapsClose.l2] at H
       replace H := sqi H
       rcases H with ⟨c19, H⟩ | ⟨c19, H⟩
       ·have c19b0 := decide_eq_false c19
        clear c19
        have H' := Aside0.mk H
        clear H
        go_wp2
        repeat (go_quiet (fail); try go_wp2)
        go_roundg k3
        case measure => have := HK1.out; have := HK2.out; have := HK3.out; omega
        case rel => exact ⟨(wrap64 (x27_2 + 1)), (x244001_3), (u244001), (by first | rfl | (simp; done) | (simp [*]; done)), H', ⟨by have := HK1.out; have := HK2.out; have := HK3.out; omega⟩, ⟨sqy HO_244001.out⟩, sqk BK236, sqk BK237, sqk BK243, sqh HB⟩
       have c19b0 := decide_eq_true c19
       clear c19
       obtain ⟨ji20, hji20⟩ : ∃ j_ : Int, (wrap64 ((wrap64 (x27_2 * (wrap64 (t239 + 1)))) + x23_1)) = j_ := ⟨_, rfl⟩
       replace H : (if 0 ≤ (ji20) then (if (ji20) < (x244001_3.length : Int) then (if 0 ≤ (wrap64 ((wrap64 (x23_1 * (wrap64 (t239 + 1)))) + x31_3)) then (if (wrap64 ((wrap64 (x23_1 * (wrap64 (t239 + 1)))) + x31_3)) < (x244001_3.length : Int) then ((impl_gapsTogether.f (rd x244001_3 (ji20)) (rd x244001_3 (wrap64 ((wrap64 (x23_1 * (wrap64 (t239 + 1)))) + x31_3)))).bind fun t246 => (if 0 ≤ (wrap64 ((wrap64 (x27_2 * (wrap64 (t239 + 1)))) + x31_3)) then (if (wrap64 ((wrap64 (x27_2 * (wrap64 (t239 + 1)))) + x31_3)) < (x244001_3.length : Int) then (if t246 < (rd x244001_3 (wrap64 ((wrap64 (x27_2 * (wrap64 (t239 + 1)))) + x31_3))) then (impl_GapsClose.l2 k3 (wrap64 (t239 + 1)) x23_1 x27_2 (wrap64 (t239 + 1)) x23_1 (wrap64 (t239 + 1)) x27_2 (wrap64 (t239 + 1)) (wrap64 (x31_3 + 1)) t239 (x244001_3.set ((wrap64 ((wrap64 (x27_2 * (wrap64 (t239 + 1)))) + x31_3)) : Int).toNat t246)) else (impl_GapsClose.l2 k3 (wrap64 (t239 + 1)) x23_1 x27_2 (wrap64 (t239 + 1)) x23_1 (wrap64 (t239 + 1)) x27_2 (wrap64 (t239 + 1)) (wrap64 (x31_3 + 1)) t239 x244001_3)) else (none)) else (none))) else (none)) else (none)) else (none)) else (none)) = some (r1, r2, r3) := by first | (rw [hji20] at H; exact H) | (simp only [hji20] at H ⊢; exact H)
       have hji20w : (IntKind.i64.wrap ((wrap64 (x27_2 * (wrap64 (t239 + 1)))) + x23_1)) = ji20 := (i64_w _).trans hji20
       replace H := sqi H
       rcases H with ⟨c21, H⟩ | ⟨c21, H⟩
       ·exact absurd H (by simp)
       have c21b0 := decide_eq_true c21
       clear c21
       replace H := sqi H
       rcases H with ⟨c22, H⟩ | ⟨c22, H⟩
       ·exact absurd H (by simp)
       have c22b0 := decide_eq_true c22
       clear c22
       obtain ⟨ji23, hji23⟩ : ∃ j_ : Int, (wrap64 ((wrap64 (x23_1 * (wrap64 (t239 + 1)))) + x31_3)) = j_ := ⟨_, rfl⟩
       replace H : (if 0 ≤ (ji23) then (if (ji23) < (x244001_3.length : Int) then ((impl_gapsTogether.f (rd x244001_3 (ji20)) (rd x244001_3 (ji23))).bind fun t246 => (if 0 ≤ (wrap64 ((wrap64 (x27_2 * (wrap64 (t239 + 1)))) + x31_3)) then (if (wrap64 ((wrap64 (x27_2 * (wrap64 (t239 + 1)))) + x31_3)) < (x244001_3.length : Int) then (if t246 < (rd x244001_3 (wrap64 ((wrap64 (x27_2 * (wrap64 (t239 + 1)))) + x31_3))) then (impl_GapsClose.l2 k3 (wrap64 (t239 + 1)) x23_1 x27_2 (wrap64 (t239 + 1)) x23_1 (wrap64 (t239 + 1)) x27_2 (wrap64 (t239 + 1)) (wrap64 (x31_3 + 1)) t239 (x244001_3.set ((wrap64 ((wrap64 (x27_2 * (wrap64 (t239 + 1)))) + x31_3)) : Int).toNat t246)) else (impl_GapsClose.l2 k3 (wrap64 (t239 + 1)) x23_1 x27_2 (wrap64 (t239 + 1)) x23_1 (wrap64 (t239 + 1)) x27_2 (wrap64 (t239 + 1)) (wrap64 (x31_3 + 1)) t239 x244001_3)) else (none)) else (none))) else (none)) else (none)) = some (r1, r2, r3) := by first | (rw [hji23] at H; exact H) | (simp only [hji23] at H ⊢; exact H)
       have hji23w : (IntKind.i64.wrap ((wrap64 (x23_1 * (wrap64 (t239 + 1)))) + x31_3)) = ji23 := (i64_w _).trans hji23
       replace H := sqi H
       rcases H with ⟨c24, H⟩ | ⟨c24, H⟩
       ·exact absurd H (by simp)
       have c24b0 := decide_eq_true c24
       clear c24
       replace H := sqi H
       rcases H with ⟨c25, H⟩ | ⟨c25, H⟩
       ·exact absurd H (by simp)
       have c25b0 := decide_eq_true c25
       clear c25
       replace H := sqbi H
       obtain ⟨t246, A26, H⟩ := H
       replace H : (if 0 ≤ (wrap64 ((wrap64 (x27_2 * (wrap64 (t239 + 1)))) + x31_3)) then (if (wrap64 ((wrap64 (x27_2 * (wrap64 (t239 + 1)))) + x31_3)) < (x244001_3.length : Int) then (if t246 < (rd x244001_3 (wrap64 ((wrap64 (x27_2 * (wrap64 (t239 + 1)))) + x31_3))) then (impl_GapsClose.l2 k3 (wrap64 (t239 + 1)) x23_1 x27_2 (wrap64 (t239 + 1)) x23_1 (wrap64 (t239 + 1)) x27_2 (wrap64 (t239 + 1)) (wrap64 (x31_3 + 1)) t239 (x244001_3.set ((wrap64 ((wrap64 (x27_2 * (wrap64 (t239 + 1)))) + x31_3)) : Int).toNat t246)) else (impl_GapsClose.l2 k3 (wrap64 (t239 + 1)) x23_1 x27_2 (wrap64 (t239 + 1)) x23_1 (wrap64 (t239 + 1)) x27_2 (wrap64 (t239 + 1)) (wrap64 (x31_3 + 1)) t239 x244001_3)) else (none)) else (none)) = some (r1, r2, r3) := H
       obtain ⟨ji27, hji27⟩ : ∃ j_ : Int, (wrap64 ((wrap64 (x27_2 * (wrap64 (t239 + 1)))) + x31_3)) = j_ := ⟨_, rfl⟩
       replace H : (if 0 ≤ (ji27) then (if (ji27) < (x244001_3.length : Int) then (if t246 < (rd x244001_3 (ji27)) then (impl_GapsClose.l2 k3 (wrap64 (t239 + 1)) x23_1 x27_2 (wrap64 (t239 + 1)) x23_1 (wrap64 (t239 + 1)) x27_2 (wrap64 (t239 + 1)) (wrap64 (x31_3 + 1)) t239 (x244001_3.set ((ji27) : Int).toNat t246)) else (impl_GapsClose.l2 k3 (wrap64 (t239 + 1)) x23_1 x27_2 (wrap64 (t239 + 1)) x23_1 (wrap64 (t239 + 1)) x27_2 (wrap64 (t239 + 1)) (wrap64 (x31_3 + 1)) t239 x244001_3)) else (none)) else (none)) = some (r1, r2, r3) := by first | (rw [hji27] at H; exact H) | (simp only [hji27] at H ⊢; exact H)
       (try rw [hji27] at A26)
       have hji27w : (IntKind.i64.wrap ((wrap64 (x27_2 * (wrap64 (t239 + 1)))) + x31_3)) = ji27 := (i64_w _).trans hji27
       replace H := sqi H
       rcases H with ⟨c28, H⟩ | ⟨c28, H⟩
       ·exact absurd H (by simp)
       have c28b0 := decide_eq_true c28
       clear c28
       replace H := sqi H
       rcases H with ⟨c29, H⟩ | ⟨c29, H⟩
       ·exact absurd H (by simp)
       have c29b0 := decide_eq_true c29
       clear c29
       replace H := sqi H
       rcases H with ⟨c30, H⟩ | ⟨c30, H⟩
       ·have c30b0 := decide_eq_false c30
        clear c30
        have H' := Aside0.mk H
        clear H
        have hnb38 := NB243_236.out
        have hnc38 := NB236_243.out
        have hnb39 := NB243_237.out
        have hnc39 := NB237_243.out
        obtain ⟨hcz40_0, hcz40_1, hfz40_0, hfz40_1⟩ := sqc2 BK243
        obtain ⟨Ao41, co41, eo41⟩ := Kd.R_slice HO_244001.out
        subst eo41
        have p244 : 0 ≤ ((ji20) : Int) := sqd
        have q244 : (ji20) < (x244001_3.length : Int) := sqd
        obtain ⟨ad244, e244, hx244_0⟩ := Kd.at_int (Kd.R_reads' HO_244001.out).2.2 (ji20) p244 q244
        cases e244
        replace p244 := eq_true p244
        replace q244 := eq_true q244
        have p245 : 0 ≤ ((ji23) : Int) := sqd
        have q245 : (ji23) < (x244001_3.length : Int) := sqd
        obtain ⟨ad245, e245, hx245_0⟩ := Kd.at_int (Kd.R_reads' HO_244001.out).2.2 (ji23) p245 q245
        obtain rfl : ad244 = ad245 := (by injection e245)
        replace p245 := eq_true p245
        replace q245 := eq_true q245
        have p247 : 0 ≤ ((ji27) : Int) := sqd
        have q247 : (ji27) < (x244001_3.length : Int) := sqd
        obtain ⟨ad247, e247, hx247_0⟩ := Kd.at_int (Kd.R_reads' HO_244001.out).2.2 (ji27) p247 q247
        obtain rfl : ad244 = ad247 := (by injection e247)
        replace p247 := eq_true p247
        replace q247 := eq_true q247
        go_wp2_with (first | (go_at_call 112; (with_reducible refine (impl_gapsTogether.calls (rd x244001_3 (ji20)) (rd x244001_3 (ji23)) t246 _ A26.out).mono ?_); rintro e w' ⟨rfl, ⟨nd, rfl⟩⟩; (try first | exact ⟨rfl, _, World.drewN_drewN _ _ _⟩ | exact ⟨rfl, _, Eq.trans (World.drewN_drewN _ _ _) (congrArg (World.drewN _) (Nat.add_assoc _ _ _))⟩)))
        repeat (go_quiet (first | (go_at_call 112; (with_reducible refine (impl_gapsTogether.calls (rd x244001_3 (ji20)) (rd x244001_3 (ji23)) t246 _ A26.out).mono ?_); rintro e w' ⟨rfl, ⟨nd, rfl⟩⟩; (try first | exact ⟨rfl, _, World.drewN_drewN _ _ _⟩ | exact ⟨rfl, _, Eq.trans (World.drewN_drewN _ _ _) (congrArg (World.drewN _) (Nat.add_assoc _ _ _))⟩))); try go_wp2_with (first | (go_at_call 112; (with_reducible refine (impl_gapsTogether.calls (rd x244001_3 (ji20)) (rd x244001_3 (ji23)) t246 _ A26.out).mono ?_); rintro e w' ⟨rfl, ⟨nd, rfl⟩⟩; (try first | exact ⟨rfl, _, World.drewN_drewN _ _ _⟩ | exact ⟨rfl, _, Eq.trans (World.drewN_drewN _ _ _) (congrArg (World.drewN _) (Nat.add_assoc _ _ _))⟩))))
        go_roundg k3
        case measure => have := HK1.out; have := HK2.out; have := HK3.out; omega
        case rel => exact ⟨(wrap64 (x31_3 + 1)), (x244001_3), (.slice (some ad244) x244001_3.length co41), (by first | rfl | (simp; done) | (simp [*]; done)), H', ⟨by have := HK1.out; have := HK2.out; have := HK3.out; omega⟩, ⟨sqy HO_244001.out⟩, sqk BK236, sqk BK237, sqk BK243, sqh HB⟩
       have c30b0 := decide_eq_true c30
       clear c30
       obtain ⟨y248, hy248⟩ : ∃ y_ : List Int, y_ = (x244001_3.set ((ji27) : Int).toNat t246) := ⟨_, rfl⟩
       replace H : (impl_GapsClose.l2 k3 (wrap64 (t239 + 1)) x23_1 x27_2 (wrap64 (t239 + 1)) x23_1 (wrap64 (t239 + 1)) x27_2 (wrap64 (t239 + 1)) (wrap64 (x31_3 + 1)) t239 y248) = some (r1, r2, r3) := by first | (rw [hy248]; with_reducible exact H) | (have H2_ := (Option.bind_some _ _).symm.trans H; rw [hy248]; with_reducible exact H2_) | (have H2_ := (Option.bind_some _ _).symm.trans H; with_reducible exact H2_) | with_reducible exact H | (rw [hy248]; exact H) | exact H
       have Ny248 := Aside0.mk hy248
       clear hy248
       have H' := Aside0.mk H
       clear H
       have hnb32 := NB243_236.out
       have hnc32 := NB236_243.out
       have hnb33 := NB243_237.out
       have hnc33 := NB237_243.out
       obtain ⟨hcz34_0, hcz34_1, hfz34_0, hfz34_1⟩ := sqc2 BK243
       obtain ⟨Ao35, co35, eo35⟩ := Kd.R_slice HO_244001.out
       subst eo35
       have p244 : 0 ≤ ((ji20) : Int) := sqd
       have q244 : (ji20) < (x244001_3.length : Int) := sqd
       obtain ⟨ad244, e244, hx244_0⟩ := Kd.at_int (Kd.R_reads' HO_244001.out).2.2 (ji20) p244 q244
       cases e244
       replace p244 := eq_true p244
       replace q244 := eq_true q244
       have p245 : 0 ≤ ((ji23) : Int) := sqd
       have q245 : (ji23) < (x244001_3.length : Int) := sqd
       obtain ⟨ad245, e245, hx245_0⟩ := Kd.at_int (Kd.R_reads' HO_244001.out).2.2 (ji23) p245 q245
       obtain rfl : ad244 = ad245 := (by injection e245)
       replace p245 := eq_true p245
       replace q245 := eq_true q245
       have p247 : 0 ≤ ((ji27) : Int) := sqd
       have q247 : (ji27) < (x244001_3.length : Int) := sqd
       obtain ⟨ad247, e247, hx247_0⟩ := Kd.at_int (Kd.R_reads' HO_244001.out).2.2 (ji27) p247 q247
       obtain rfl : ad244 = ad247 := (by injection e247)
       replace p247 := eq_true p247
       replace q247 := eq_true q247
       have p31 : 0 ≤ ((ji27) : Int) := sqd
       have q31 : ((ji27) : Int) < ((x244001_3.length : Int) : Int) := sqd
       obtain ⟨go31, co31, eo31, gb31, gl31, cl31, HG31⟩ := Kd.R_form HO_244001.out (by omega)
       (first | cases eo31 | (injection eo31 with ea_ en_ ec_; (first | subst ea_ | (injection ea_ with ea_; subst ea_)); subst ec_; clear en_))
       have GB31 := Aside0.mk gb31
       have GG31 := Aside0.mk HG31
       clear gb31 gl31 HG31
       (first | simp only [add_plain] at hx244_0 | skip)
       (first | simp only [add_plain] at hx245_0 | skip)
       (first | simp only [add_plain] at hx247_0 | skip)
       obtain ⟨hx31_0, hf31_0⟩ := Kd.R_celln 0 HO_244001.out ((ji27) : Int) p31 q31
       replace p31 := eq_true p31
       replace q31 := eq_true q31
       obtain ⟨hy36_, hz36_⟩ := Kd.R_celln 0 HO_244001.out ((ji27) : Int) sqd sqd
       have HP36 := Kd.R_putg HO_244001.out ((ji27) : Int) t246
       go_wp2_with (first | (go_at_call 112; (with_reducible refine (impl_gapsTogether.calls (rd x244001_3 (ji20)) (rd x244001_3 (ji23)) t246 _ A26.out).mono ?_); rintro e w' ⟨rfl, ⟨nd, rfl⟩⟩; (try first | exact ⟨rfl, _, World.drewN_drewN _ _ _⟩ | exact ⟨rfl, _, Eq.trans (World.drewN_drewN _ _ _) (congrArg (World.drewN _) (Nat.add_assoc _ _ _))⟩)) | ((with_reducible refine gate_store (t := 3) (p := 72) rfl ?_); (try (rw [drewN_self wr]; generalize hq_ : World.drewN wr _ = wr; have n0_ := Aside0.mk (Kd.R_at hq_ HO_244001.out); have n1_ := Aside0.mk (blk_at hq_ BK236.out); have n2_ := Aside0.mk (blk_at hq_ BK237.out); have n3_ := Aside0.mk (blk_at hq_ BK243.out); have n4_ := Aside0.mk (below_at hq_ HB.out); clear hq_ HO_244001 BK236 BK237 BK243 HB; have HO_244001 := n0_; have BK236 := n1_; have BK237 := n2_; have BK243 := n3_; have HB := n4_; clear n0_ n1_ n2_ n3_ n4_; (try (obtain ⟨hy36_, hz36_⟩ := Kd.R_celln 0 HO_244001.out ((ji27) : Int) sqd sqd)); (try (have HP36 := Kd.R_putg HO_244001.out ((ji27) : Int) t246)))); refine store_event (t := 3) (p := 72) (v := ?vo_w37) (w1 := (wr.setCell ⟨go31, ((ji27) : Int).toNat, none⟩ (.int .i64 t246))) ?hg ?ho ?hn ?hr ?_; (case ho => rfl); (case hg => rfl); (case hn => rfl); (case hr => first | (go_simp; done) | (go_simp; rfl)); intro w37 hw; have hg : wr.grownBy w37 (some go31) := (by rw [hw]; exact HP36.2); have hp_ : Kd.R (Kd.int .i64) 3 w37 w.heap.size (fun _ => True) (.slice (some ⟨go31, 0, none⟩) x244001_3.length co35) y248 := (by rw [hw, Ny248.out]; exact HP36.1); clear HP36; have n0_ := Aside0.mk (hp_); have n1_ := Aside0.mk (blk_grown (g := gb236) (o := .cells #[.int .i64 a0_0, .slice A0_1 l0_1.length c0_1] 41 (0, 0)) (sqt BK236.out) hg (Kd.R_ne HO_244001.out BK236.out (by decide))); have n2_ := Aside0.mk (blk_grown (g := gb237) (o := .cells #[.int .i64 x238000_1, .slice none 0 0] 41 (0, 0)) (sqt BK237.out) hg (Kd.R_ne HO_244001.out BK237.out (by decide))); have n3_ := Aside0.mk (blk_grown (g := gb243) (o := .cells #[.int .i64 t239, .slice (some ⟨go31, 0, none⟩) x244001_3.length co35] 41 (0, 0)) (sqt BK243.out) hg (Kd.R_ne HO_244001.out BK243.out (by decide))); have n4_ := Aside0.mk ((by rw [hw]; exact below_set (HB.out) GB31.out : Below w.heap.size w w37)); clear HO_244001; clear BK236; clear BK237; clear BK243; clear HB; have HO_244001 := n0_; have BK236 := n1_; have BK237 := n2_; have BK243 := n3_; have HB := n4_; clear n0_ n1_ n2_ n3_ n4_; clear hg hw hp_))
       repeat (go_quiet (first | (go_at_call 112; (with_reducible refine (impl_gapsTogether.calls (rd x244001_3 (ji20)) (rd x244001_3 (ji23)) t246 _ A26.out).mono ?_); rintro e w' ⟨rfl, ⟨nd, rfl⟩⟩; (try first | exact ⟨rfl, _, World.drewN_drewN _ _ _⟩ | exact ⟨rfl, _, Eq.trans (World.drewN_drewN _ _ _) (congrArg (World.drewN _) (Nat.add_assoc _ _ _))⟩)) | ((with_reducible refine gate_store (t := 3) (p := 72) rfl ?_); (try (rw [drewN_self wr]; generalize hq_ : World.drewN wr _ = wr; have n0_ := Aside0.mk (Kd.R_at hq_ HO_244001.out); have n1_ := Aside0.mk (blk_at hq_ BK236.out); have n2_ := Aside0.mk (blk_at hq_ BK237.out); have n3_ := Aside0.mk (blk_at hq_ BK243.out); have n4_ := Aside0.mk (below_at hq_ HB.out); clear hq_ HO_244001 BK236 BK237 BK243 HB; have HO_244001 := n0_; have BK236 := n1_; have BK237 := n2_; have BK243 := n3_; have HB := n4_; clear n0_ n1_ n2_ n3_ n4_; (try (obtain ⟨hy36_, hz36_⟩ := Kd.R_celln 0 HO_244001.out ((ji27) : Int) sqd sqd)); (try (have HP36 := Kd.R_putg HO_244001.out ((ji27) : Int) t246)))); refine store_event (t := 3) (p := 72) (v := ?vo_w37) (w1 := (wr.setCell ⟨go31, ((ji27) : Int).toNat, none⟩ (.int .i64 t246))) ?hg ?ho ?hn ?hr ?_; (case ho => rfl); (case hg => rfl); (case hn => rfl); (case hr => first | (go_simp; done) | (go_simp; rfl)); intro w37 hw; have hg : wr.grownBy w37 (some go31) := (by rw [hw]; exact HP36.2); have hp_ : Kd.R (Kd.int .i64) 3 w37 w.heap.size (fun _ => True) (.slice (some ⟨go31, 0, none⟩) x244001_3.length co35) y248 := (by rw [hw, Ny248.out]; exact HP36.1); clear HP36; have n0_ := Aside0.mk (hp_); have n1_ := Aside0.mk (blk_grown (g := gb236) (o := .cells #[.int .i64 a0_0, .slice A0_1 l0_1.length c0_1] 41 (0, 0)) (sqt BK236.out) hg (Kd.R_ne HO_244001.out BK236.out (by decide))); have n2_ := Aside0.mk (blk_grown (g := gb237) (o := .cells #[.int .i64 x238000_1, .slice none 0 0] 41 (0, 0)) (sqt BK237.out) hg (Kd.R_ne HO_244001.out BK237.out (by decide))); have n3_ := Aside0.mk (blk_grown (g := gb243) (o := .cells #[.int .i64 t239, .slice (some ⟨go31, 0, none⟩) x244001_3.length co35] 41 (0, 0)) (sqt BK243.out) hg (Kd.R_ne HO_244001.out BK243.out (by decide))); have n4_ := Aside0.mk ((by rw [hw]; exact below_set (HB.out) GB31.out : Below w.heap.size w w37)); clear HO_244001; clear BK236; clear BK237; clear BK243; clear HB; have HO_244001 := n0_; have BK236 := n1_; have BK237 := n2_; have BK243 := n3_; have HB := n4_; clear n0_ n1_ n2_ n3_ n4_; clear hg hw hp_)); try go_wp2_with (first | (go_at_call 112; (with_reducible refine (impl_gapsTogether.calls (rd x244001_3 (ji20)) (rd x244001_3 (ji23)) t246 _ A26.out).mono ?_); rintro e w' ⟨rfl, ⟨nd, rfl⟩⟩; (try first | exact ⟨rfl, _, World.drewN_drewN _ _ _⟩ | exact ⟨rfl, _, Eq.trans (World.drewN_drewN _ _ _) (congrArg (World.drewN _) (Nat.add_assoc _ _ _))⟩)) | ((with_reducible refine gate_store (t := 3) (p := 72) rfl ?_); (try (rw [drewN_self wr]; generalize hq_ : World.drewN wr _ = wr; have n0_ := Aside0.mk (Kd.R_at hq_ HO_244001.out); have n1_ := Aside0.mk (blk_at hq_ BK236.out); have n2_ := Aside0.mk (blk_at hq_ BK237.out); have n3_ := Aside0.mk (blk_at hq_ BK243.out); have n4_ := Aside0.mk (below_at hq_ HB.out); clear hq_ HO_244001 BK236 BK237 BK243 HB; have HO_244001 := n0_; have BK236 := n1_; have BK237 := n2_; have BK243 := n3_; have HB := n4_; clear n0_ n1_ n2_ n3_ n4_; (try (obtain ⟨hy36_, hz36_⟩ := Kd.R_celln 0 HO_244001.out ((ji27) : Int) sqd sqd)); (try (have HP36 := Kd.R_putg HO_244001.out ((ji27) : Int) t246)))); refine store_event (t := 3) (p := 72) (v := ?vo_w37) (w1 := (wr.setCell ⟨go31, ((ji27) : Int).toNat, none⟩ (.int .i64 t246))) ?hg ?ho ?hn ?hr ?_; (case ho => rfl); (case hg => rfl); (case hn => rfl); (case hr => first | (go_simp; done) | (go_simp; rfl)); intro w37 hw; have hg : wr.grownBy w37 (some go31) := (by rw [hw]; exact HP36.2); have hp_ : Kd.R (Kd.int .i64) 3 w37 w.heap.size (fun _ => True) (.slice (some ⟨go31, 0, none⟩) x244001_3.length co35) y248 := (by rw [hw, Ny248.out]; exact HP36.1); clear HP36; have n0_ := Aside0.mk (hp_); have n1_ := Aside0.mk (blk_grown (g := gb236) (o := .cells #[.int .i64 a0_0, .slice A0_1 l0_1.length c0_1] 41 (0, 0)) (sqt BK236.out) hg (Kd.R_ne HO_244001.out BK236.out (by decide))); have n2_ := Aside0.mk (blk_grown (g := gb237) (o := .cells #[.int .i64 x238000_1, .slice none 0 0] 41 (0, 0)) (sqt BK237.out) hg (Kd.R_ne HO_244001.out BK237.out (by decide))); have n3_ := Aside0.mk (blk_grown (g := gb243) (o := .cells #[.int .i64 t239, .slice (some ⟨go31, 0, none⟩) x244001_3.length co35] 41 (0, 0)) (sqt BK243.out) hg (Kd.R_ne HO_244001.out BK243.out (by decide))); have n4_ := Aside0.mk ((by rw [hw]; exact below_set (HB.out) GB31.out : Below w.heap.size w w37)); clear HO_244001; clear BK236; clear BK237; clear BK243; clear HB; have HO_244001 := n0_; have BK236 := n1_; have BK237 := n2_; have BK243 := n3_; have HB := n4_; clear n0_ n1_ n2_ n3_ n4_; clear hg hw hp_)))
       go_roundg k3
       case measure => have := HK1.out; have := HK2.out; have := HK3.out; omega
       case rel => exact ⟨(wrap64 (x31_3 + 1)), (y248), (.slice (some ⟨go31, 0, none⟩) x244001_3.length co35), (by first | rfl | (simp; done) | (simp [*]; done)), H', ⟨by have := HK1.out; have := HK2.out; have := HK3.out; omega⟩, ⟨sqy HO_244001.out⟩, sqk BK236, sqk BK237, sqk BK243, sqh HB⟩

/-! ### spec_l11At: function 115 -/
set_option maxHeartbeats 8000000 in
set_option maxRecDepth 100000 in
theorem spec_l11At.calls (a0_0 : Int) (A0_1 : Option Addr) (c0_1 : Nat) (l0_1 : List Int) (a1 : Int) (a2 : Int) (r : Int) (w : World) (hr0_1 : Kd.C (Kd.int .i64) w A0_1 l0_1.length l0_1) (hc0_1 : l0_1.length ≤ c0_1) (h : spec_l11At.f a0_0 l0_1 a1 a2 = some r) :
  Calls Try.prog 115 #[.agg #[.int .i64 a0_0, .slice A0_1 l0_1.length c0_1], .int .i64 a1, .int .i64 a2] w fun e w' => e = .returned (.int .i64 r) ∧ Below w.heap.size w w' := by
 have hu41 := Try.underlying41
 have HR0_1 := Aside0.mk hr0_1
 have HC0_1 := Aside0.mk hc0_1
 clear hr0_1 hc0_1
 have HB := Aside0.mk (Below.refl w.heap.size w)
 have H : (if 0 ≤ (wrap64 ((wrap64 (a1 * (wrap64 (a0_0 + 1)))) + a2)) then (if (wrap64 ((wrap64 (a1 * (wrap64 (a0_0 + 1)))) + a2)) < (l0_1.length : Int) then (some (rd l0_1 (wrap64 ((wrap64 (a1 * (wrap64 (a0_0 + 1)))) + a2)))) else (none)) else (none)) = some r := h
 clear h
 obtain ⟨ji4, hji4⟩ : ∃ j_ : Int, (wrap64 ((wrap64 (a1 * (wrap64 (a0_0 + 1)))) + a2)) = j_ := ⟨_, rfl⟩
 replace H : (if 0 ≤ (ji4) then (if (ji4) < (l0_1.length : Int) then (some (rd l0_1 (ji4))) else (none)) else (none)) = some r := by first | (rw [hji4] at H; exact H) | (simp only [hji4] at H ⊢; exact H)
 have hji4w : (IntKind.i64.wrap ((wrap64 (a1 * (wrap64 (a0_0 + 1)))) + a2)) = ji4 := (i64_w _).trans hji4
 replace H := sqi H
 rcases H with ⟨c5, H⟩ | ⟨c5, H⟩
 ·exact absurd H (by simp)
 have c5b0 := decide_eq_true c5
 clear c5
 replace H := sqi H
 rcases H with ⟨c6, H⟩ | ⟨c6, H⟩
 ·exact absurd H (by simp)
 have c6b0 := decide_eq_true c6
 clear c6
 obtain rfl := Option.some.inj H
 go_enter Try.func115, Try.ntmps115
 go_wp2_with (first | ((with_reducible refine gate_dst (N := 3) rfl ?_); refine sqx 3 #[.int .i64 a0_0, .slice A0_1 l0_1.length c0_1] 41 ?_; intro gb251 hg w7 hbox hb; have BK251 := Aside0.mk hbox; have GW251 := sqg HB hg; have GE251 := sqg HB hg; replace HB := sqs HB hb; clear hb hbox hg; obtain ⟨hcz8_0, hcz8_1, hfz8_0, hfz8_1⟩ := sqc2 BK251; have p252 : 0 ≤ ((ji4) : Int) := sqd; have q252 : (ji4) < (l0_1.length : Int) := sqd; obtain ⟨ad252, e252, hx252_0⟩ := Kd.at_int HR0_1.out (ji4) p252 q252; cases e252; replace hx252_0 := sqa HB hx252_0; replace p252 := eq_true p252; replace q252 := eq_true q252))
 go_ret
 exact ⟨by first | rfl | (simp [errW_none, errW_some] <;> rfl) | (simp only [← hji4]; first | rfl | (simp [errW_none, errW_some] <;> rfl)) | (simp [*, errW_none, errW_some] <;> rfl), by repeat (first | (with_reducible first | exact HB.out | apply below_alloc | apply pw_below_drewN | apply below_drew1 | refine below_set ?_ GE251.out) | exact HB.out)⟩

end Go.Proofs.Ytkekcenlleebeaa.PFnGapsClose
