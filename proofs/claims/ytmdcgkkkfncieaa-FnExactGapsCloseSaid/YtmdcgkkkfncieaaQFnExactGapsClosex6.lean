/- Functions of the program as plain Lean functions, and that calls of them come to what these tell. Conditions: those in each law. -/
import Derived.Test.YtmdcgkkkfncieaaSq
import Derived.Test.YtmdcgkkkfncieaaDFnExactGapsClose
import Derived.Test.YtmdcgkkkfncieaaQFnExactGapsClosex0
import Derived.Test.YtmdcgkkkfncieaaQFnExactGapsClosex1
import Derived.Test.YtmdcgkkkfncieaaQFnExactGapsClosex3
import Derived.Test.YtmdcgkkkfncieaaQFnExactGapsClosex5
namespace Go.Proofs.Ytmdcgkkkfncieaa.PFnExactGapsClose
open Go.RowKit Go.Proofs.Ytmdcgkkkfncieaa.Sq Go.Proofs.YtmdcgkkkfncieaaW.PrintWords Go.Proofs.YtmdcgkkkfncieaaW.PrintLast Go.Proofs.YtmdcgkkkfncieaaW.PrintMore
attribute [local go_sem] max2_int min2_int max_two min_two max_three min_three max_four min_four   -- for this text's walks alone
set_option linter.unusedVariables false
set_option linter.unusedSimpArgs false

/-! ### laws_FnExactGapsClose: function 8 -/
theorem laws_FnExactGapsClose.mono_l : ∀ k, (∀ y0 y1 y2 y3 y4 y5 y6 y7 y8 y9 y10, LeO (laws_FnExactGapsClose.j0 k y0 y1 y2 y3 y4 y5 y6 y7 y8 y9 y10) (laws_FnExactGapsClose.j0 (k + 1) y0 y1 y2 y3 y4 y5 y6 y7 y8 y9 y10)) ∧ (∀ y0 y1 y2 y3 y4 y5 y6 y7, LeO (laws_FnExactGapsClose.j1 k y0 y1 y2 y3 y4 y5 y6 y7) (laws_FnExactGapsClose.j1 (k + 1) y0 y1 y2 y3 y4 y5 y6 y7)) ∧ (∀ y0 y1 y2 y3, LeO (laws_FnExactGapsClose.j2 k y0 y1 y2 y3) (laws_FnExactGapsClose.j2 (k + 1) y0 y1 y2 y3))
  | 0 => ⟨fun _ _ _ _ _ _ _ _ _ _ _ r h => by simp [laws_FnExactGapsClose.j0] at h, fun _ _ _ _ _ _ _ _ r h => by simp [laws_FnExactGapsClose.j1] at h, fun _ _ _ _ r h => by simp [laws_FnExactGapsClose.j2] at h⟩
  | k + 1 => by
    obtain ⟨ih0, ih1, ih2⟩ := laws_FnExactGapsClose.mono_l k
    refine ⟨?_, ?_, ?_⟩
    · intro y0 y1 y2 y3 y4 y5 y6 y7 y8 y9 y10
      unfold laws_FnExactGapsClose.j0
      repeat' first
      | (with_reducible exact ih0 _ _ _ _ _ _ _ _ _ _ _)
      | (with_reducible exact ih1 _ _ _ _ _ _ _ _)
      | (with_reducible exact ih2 _ _ _ _)
      | (with_reducible exact impl_GapsClose.mono _ _ _)
      | (with_reducible exact laws_eqGaps.mono _ _ _ _ _)
      | (with_reducible exact laws_heldGaps.mono _ _ _ _)
      | (with_reducible exact laws_markGaps.mono _ _ _ _)
      | (with_reducible exact laws_toGaps.mono _ _ _)
      | (with_reducible exact spec_GapsClose.mono _ _ _)
      | (with_reducible exact LeO.refl _)
      | (with_reducible exact LeO.none _)
      | (with_reducible refine LeO.ite ?_ ?_)
      | (with_reducible refine LeO.bind ?_ (fun _ => ?_))
      | exact ih0 _ _ _ _ _ _ _ _ _ _ _
      | exact ih1 _ _ _ _ _ _ _ _
      | exact ih2 _ _ _ _
      | exact impl_GapsClose.mono _ _ _
      | exact laws_eqGaps.mono _ _ _ _ _
      | exact laws_heldGaps.mono _ _ _ _
      | exact laws_markGaps.mono _ _ _ _
      | exact laws_toGaps.mono _ _ _
      | exact spec_GapsClose.mono _ _ _
      | exact LeO.none _
      | refine LeO.ite ?_ ?_
      | refine LeO.bind ?_ (fun _ => ?_)
    · intro y0 y1 y2 y3 y4 y5 y6 y7
      unfold laws_FnExactGapsClose.j1
      repeat' first
      | (with_reducible exact ih0 _ _ _ _ _ _ _ _ _ _ _)
      | (with_reducible exact ih1 _ _ _ _ _ _ _ _)
      | (with_reducible exact ih2 _ _ _ _)
      | (with_reducible exact impl_GapsClose.mono _ _ _)
      | (with_reducible exact laws_eqGaps.mono _ _ _ _ _)
      | (with_reducible exact laws_heldGaps.mono _ _ _ _)
      | (with_reducible exact laws_markGaps.mono _ _ _ _)
      | (with_reducible exact laws_toGaps.mono _ _ _)
      | (with_reducible exact spec_GapsClose.mono _ _ _)
      | (with_reducible exact LeO.refl _)
      | (with_reducible exact LeO.none _)
      | (with_reducible refine LeO.ite ?_ ?_)
      | (with_reducible refine LeO.bind ?_ (fun _ => ?_))
      | exact ih0 _ _ _ _ _ _ _ _ _ _ _
      | exact ih1 _ _ _ _ _ _ _ _
      | exact ih2 _ _ _ _
      | exact impl_GapsClose.mono _ _ _
      | exact laws_eqGaps.mono _ _ _ _ _
      | exact laws_heldGaps.mono _ _ _ _
      | exact laws_markGaps.mono _ _ _ _
      | exact laws_toGaps.mono _ _ _
      | exact spec_GapsClose.mono _ _ _
      | exact LeO.none _
      | refine LeO.ite ?_ ?_
      | refine LeO.bind ?_ (fun _ => ?_)
    · intro y0 y1 y2 y3
      unfold laws_FnExactGapsClose.j2
      repeat' first
      | (with_reducible exact ih0 _ _ _ _ _ _ _ _ _ _ _)
      | (with_reducible exact ih1 _ _ _ _ _ _ _ _)
      | (with_reducible exact ih2 _ _ _ _)
      | (with_reducible exact impl_GapsClose.mono _ _ _)
      | (with_reducible exact laws_eqGaps.mono _ _ _ _ _)
      | (with_reducible exact laws_heldGaps.mono _ _ _ _)
      | (with_reducible exact laws_markGaps.mono _ _ _ _)
      | (with_reducible exact laws_toGaps.mono _ _ _)
      | (with_reducible exact spec_GapsClose.mono _ _ _)
      | (with_reducible exact LeO.refl _)
      | (with_reducible exact LeO.none _)
      | (with_reducible refine LeO.ite ?_ ?_)
      | (with_reducible refine LeO.bind ?_ (fun _ => ?_))
      | exact ih0 _ _ _ _ _ _ _ _ _ _ _
      | exact ih1 _ _ _ _ _ _ _ _
      | exact ih2 _ _ _ _
      | exact impl_GapsClose.mono _ _ _
      | exact laws_eqGaps.mono _ _ _ _ _
      | exact laws_heldGaps.mono _ _ _ _
      | exact laws_markGaps.mono _ _ _ _
      | exact laws_toGaps.mono _ _ _
      | exact spec_GapsClose.mono _ _ _
      | exact LeO.none _
      | refine LeO.ite ?_ ?_
      | refine LeO.bind ?_ (fun _ => ?_)
theorem laws_FnExactGapsClose.mono : ∀ a0 a1 k, LeO (laws_FnExactGapsClose.f k a0 a1) (laws_FnExactGapsClose.f (k + 1) a0 a1) := by
  intro a0 a1 k
  obtain ⟨ih0, ih1, ih2⟩ := laws_FnExactGapsClose.mono_l k
  unfold laws_FnExactGapsClose.f
  repeat' first
      | (with_reducible exact ih0 _ _ _ _ _ _ _ _ _ _ _)
      | (with_reducible exact ih1 _ _ _ _ _ _ _ _)
      | (with_reducible exact ih2 _ _ _ _)
      | (with_reducible exact impl_GapsClose.mono _ _ _)
      | (with_reducible exact laws_eqGaps.mono _ _ _ _ _)
      | (with_reducible exact laws_heldGaps.mono _ _ _ _)
      | (with_reducible exact laws_markGaps.mono _ _ _ _)
      | (with_reducible exact laws_toGaps.mono _ _ _)
      | (with_reducible exact spec_GapsClose.mono _ _ _)
      | (with_reducible exact LeO.refl _)
      | (with_reducible exact LeO.none _)
      | (with_reducible refine LeO.ite ?_ ?_)
      | (with_reducible refine LeO.bind ?_ (fun _ => ?_))
      | exact ih0 _ _ _ _ _ _ _ _ _ _ _
      | exact ih1 _ _ _ _ _ _ _ _
      | exact ih2 _ _ _ _
      | exact impl_GapsClose.mono _ _ _
      | exact laws_eqGaps.mono _ _ _ _ _
      | exact laws_heldGaps.mono _ _ _ _
      | exact laws_markGaps.mono _ _ _ _
      | exact laws_toGaps.mono _ _ _
      | exact spec_GapsClose.mono _ _ _
      | exact LeO.none _
      | refine LeO.ite ?_ ?_
      | refine LeO.bind ?_ (fun _ => ?_)
set_option maxHeartbeats 8000000 in
set_option maxRecDepth 100000 in
theorem laws_FnExactGapsClose.calls (k : Nat) (a0_0 : Int) (A0_1 : Option Addr) (c0_1 : Nat) (l0_1 : List Int) (r : Bool) (w : World) (hr0_1 : Kd.C (Kd.int .i64) w A0_1 l0_1.length l0_1) (hc0_1 : l0_1.length ≤ c0_1) (h : laws_FnExactGapsClose.f k a0_0 l0_1 = some r) :
    Calls Try.prog 8 #[.agg #[.int .i64 a0_0, .slice A0_1 l0_1.length c0_1]] w fun e w' => e = .returned (.bool r) ∧ Below w.heap.size w w' := by
  have hu24 := Try.underlying24
  have hu29 := Try.underlying29
  have HR0_1 := Aside0.mk hr0_1
  have HC0_1 := Aside0.mk hc0_1
  clear hr0_1 hc0_1
  have HB := Aside0.mk (Below.refl w.heap.size w)
  have H : ((laws_szGaps.f a0_0 l0_1 1048576).bind fun t182 => (if t182 < 0 then (some true) else ((laws_toGaps.f k a0_0 l0_1).bind fun bt183 => ((spec_GapsClose.f k bt183.1 bt183.2).bind fun bt187 => ((laws_toGaps.f k a0_0 l0_1).bind fun bt193 => ((impl_GapsClose.f k bt193.1 bt193.2).bind fun bt198 => ((laws_eqGaps.f k bt198.1 bt198.2.1 bt187.1 bt187.2.1).bind fun t204 => (if t204 = true then (laws_FnExactGapsClose.j0 k bt187.2.2 bt198.2.2 (bt198.2.2 != bt187.2.2) a0_0 l0_1 bt187.1 bt187.2.1 bt193.1 bt193.2 bt198.1 bt198.2.1) else (laws_FnExactGapsClose.j0 k bt187.2.2 bt198.2.2 true a0_0 l0_1 bt187.1 bt187.2.1 bt193.1 bt193.2 bt198.1 bt198.2.1))))))))) = some r := h
  clear h
  replace H := Option.bind_eq_some_iff.mp H
  obtain ⟨t182, A20, H⟩ := H
  replace H : (if t182 < 0 then (some true) else ((laws_toGaps.f k a0_0 l0_1).bind fun bt183 => ((spec_GapsClose.f k bt183.1 bt183.2).bind fun bt187 => ((laws_toGaps.f k a0_0 l0_1).bind fun bt193 => ((impl_GapsClose.f k bt193.1 bt193.2).bind fun bt198 => ((laws_eqGaps.f k bt198.1 bt198.2.1 bt187.1 bt187.2.1).bind fun t204 => (if t204 = true then (laws_FnExactGapsClose.j0 k bt187.2.2 bt198.2.2 (bt198.2.2 != bt187.2.2) a0_0 l0_1 bt187.1 bt187.2.1 bt193.1 bt193.2 bt198.1 bt198.2.1) else (laws_FnExactGapsClose.j0 k bt187.2.2 bt198.2.2 true a0_0 l0_1 bt187.1 bt187.2.1 bt193.1 bt193.2 bt198.1 bt198.2.1)))))))) = some r := H
  have A2 := Aside0.mk A20
  clear A20
  by_cases c3 : t182 < 0
  · rw [if_pos c3] at H
    have c3b0 : decide (t182 < 0) = true := decide_eq_true c3
    clear c3
    obtain rfl := Option.some.inj H
    go_enter Try.func8, Try.ntmps8
    go_wp2_with (first | ((with_reducible refine gate_dst (N := 1) rfl ?_); refine sqx 1 #[.int .i64 a0_0, .slice A0_1 l0_1.length c0_1] 24 ?_; intro gb181 hg w4 hbox hb; have BK181 := Aside0.mk (hbox); have GW181 := sqg HB hg; have GE181 := sqg HB hg; replace HB := sqs HB hb; clear hb hbox hg; obtain ⟨hcz5_0, hcz5_1, hfz5_0, hfz5_1⟩ := sqc2 BK181) | ((with_reducible refine gate_callee (f := 14) rfl ?_); refine sqL (some 16) Try.func14 #[.agg #[.int .i64 a0_0, .slice A0_1 l0_1.length c0_1], .int .i64 1048576] ?_; (with_reducible refine (laws_szGaps.calls a0_0 _ _ l0_1 1048576 t182 _ ?side1 ?side2 A2.out).mono ?_); (case side1 => repeat (first | exact (Kd.C_below HR0_1.out HB.out) | (with_reducible refine Kd.C_alloc ?_ _) | (with_reducible refine Kd.C_drewN ?_ _) | (with_reducible refine Kd.C_drew ?_))); (case side2 => exact HC0_1.out); rintro e w6 ⟨rfl, hb⟩; refine ⟨_, rfl, ?_⟩; replace BK181 := sqb BK181 hb; replace HB := sqs HB hb; (try clear hb)))
    go_ret
    exact sqe HB
  · rw [if_neg c3] at H
    have c3b0 : decide (t182 < 0) = false := decide_eq_false c3
    clear c3
    replace H := Option.bind_eq_some_iff.mp H
    obtain ⟨⟨t183, t184⟩, A70, H⟩ := H
    replace H : ((spec_GapsClose.f k t183 t184).bind fun bt187 => ((laws_toGaps.f k a0_0 l0_1).bind fun bt193 => ((impl_GapsClose.f k bt193.1 bt193.2).bind fun bt198 => ((laws_eqGaps.f k bt198.1 bt198.2.1 bt187.1 bt187.2.1).bind fun t204 => (if t204 = true then (laws_FnExactGapsClose.j0 k bt187.2.2 bt198.2.2 (bt198.2.2 != bt187.2.2) a0_0 l0_1 bt187.1 bt187.2.1 bt193.1 bt193.2 bt198.1 bt198.2.1) else (laws_FnExactGapsClose.j0 k bt187.2.2 bt198.2.2 true a0_0 l0_1 bt187.1 bt187.2.1 bt193.1 bt193.2 bt198.1 bt198.2.1)))))) = some r := H
    have A7 := Aside0.mk A70
    clear A70
    replace H := Option.bind_eq_some_iff.mp H
    obtain ⟨⟨t187, t188, t191⟩, A80, H⟩ := H
    replace H : ((laws_toGaps.f k a0_0 l0_1).bind fun bt193 => ((impl_GapsClose.f k bt193.1 bt193.2).bind fun bt198 => ((laws_eqGaps.f k bt198.1 bt198.2.1 t187 t188).bind fun t204 => (if t204 = true then (laws_FnExactGapsClose.j0 k t191 bt198.2.2 (bt198.2.2 != t191) a0_0 l0_1 t187 t188 bt193.1 bt193.2 bt198.1 bt198.2.1) else (laws_FnExactGapsClose.j0 k t191 bt198.2.2 true a0_0 l0_1 t187 t188 bt193.1 bt193.2 bt198.1 bt198.2.1))))) = some r := H
    have A8 := Aside0.mk A80
    clear A80
    replace H := Option.bind_eq_some_iff.mp H
    obtain ⟨⟨t193, t194⟩, A90, H⟩ := H
    replace H : ((impl_GapsClose.f k t193 t194).bind fun bt198 => ((laws_eqGaps.f k bt198.1 bt198.2.1 t187 t188).bind fun t204 => (if t204 = true then (laws_FnExactGapsClose.j0 k t191 bt198.2.2 (bt198.2.2 != t191) a0_0 l0_1 t187 t188 t193 t194 bt198.1 bt198.2.1) else (laws_FnExactGapsClose.j0 k t191 bt198.2.2 true a0_0 l0_1 t187 t188 t193 t194 bt198.1 bt198.2.1)))) = some r := H
    have A9 := Aside0.mk A90
    clear A90
    replace H := Option.bind_eq_some_iff.mp H
    obtain ⟨⟨t198, t199, t202⟩, A100, H⟩ := H
    replace H : ((laws_eqGaps.f k t198 t199 t187 t188).bind fun t204 => (if t204 = true then (laws_FnExactGapsClose.j0 k t191 t202 (t202 != t191) a0_0 l0_1 t187 t188 t193 t194 t198 t199) else (laws_FnExactGapsClose.j0 k t191 t202 true a0_0 l0_1 t187 t188 t193 t194 t198 t199))) = some r := H
    have A10 := Aside0.mk A100
    clear A100
    have HC11 := Aside0.mk H
    clear H
    go_enter Try.func8, Try.ntmps8
    go_upto_region 8 with (first | ((with_reducible refine gate_dst (N := 1) rfl ?_); refine sqx 1 #[.int .i64 a0_0, .slice A0_1 l0_1.length c0_1] 24 ?_; intro gb181 hg w12 hbox hb; have BK181 := Aside0.mk (hbox); have GW181 := sqg HB hg; have GE181 := sqg HB hg; replace HB := sqs HB hb; clear hb hbox hg; obtain ⟨hcz13_0, hcz13_1, hfz13_0, hfz13_1⟩ := sqc2 BK181) | ((with_reducible refine gate_callee (f := 14) rfl ?_); refine sqL (some 16) Try.func14 #[.agg #[.int .i64 a0_0, .slice A0_1 l0_1.length c0_1], .int .i64 1048576] ?_; (with_reducible refine (laws_szGaps.calls a0_0 _ _ l0_1 1048576 t182 _ ?side1 ?side2 A2.out).mono ?_); (case side1 => repeat (first | exact (Kd.C_below HR0_1.out HB.out) | (with_reducible refine Kd.C_alloc ?_ _) | (with_reducible refine Kd.C_drewN ?_ _) | (with_reducible refine Kd.C_drew ?_))); (case side2 => exact HC0_1.out); rintro e w14 ⟨rfl, hb⟩; refine ⟨_, rfl, ?_⟩; replace BK181 := sqb BK181 hb; replace HB := sqs HB hb; (try clear hb); obtain ⟨hcz15_0, hcz15_1, hfz15_0, hfz15_1⟩ := sqc2 BK181) | ((with_reducible refine gate_callee (f := 16) rfl ?_); refine sqL (some 21) Try.func16 #[.agg #[.int .i64 a0_0, .slice A0_1 l0_1.length c0_1]] ?_; (with_reducible refine (laws_toGaps.calls k a0_0 _ _ l0_1 t183 t184 _ ?side1 ?side2 A7.out).mono ?_); (case side1 => repeat (first | exact (Kd.C_below HR0_1.out HB.out) | (with_reducible refine Kd.C_alloc ?_ _) | (with_reducible refine Kd.C_drewN ?_ _) | (with_reducible refine Kd.C_drew ?_))); (case side2 => exact HC0_1.out); rintro e w16 ⟨v185, rfl, ho0, hb⟩; refine ⟨_, rfl, ?_⟩; have HO186 := Aside0.mk (Kd.R_lower ho0 (below_size (by repeat (first | (with_reducible first | exact HB.out | apply below_alloc | apply pw_below_drewN | apply below_drew1 | refine below_set ?_ GE181.out) | exact HB.out)))); replace BK181 := sqb BK181 hb; replace HB := sqs HB hb; (try clear hb); (try clear hb2); (try clear hk); (try clear hi); (try clear ho0); obtain ⟨Ao17, co17, eo17⟩ := Kd.R_slice HO186.out; subst eo17) | ((with_reducible refine gate_callee (f := 30) rfl ?_); refine sqL (some 22) Try.func30 #[.agg #[.int .i64 t183, .slice Ao17 t184.length co17]] ?_; (with_reducible refine (spec_GapsClose.calls k t183 _ _ t184 t187 t188 t191 _ ?side1 ?side2 A8.out).mono ?_); (case side1 => repeat (first | exact (Kd.R_reads' HO186.out).2.2 | (with_reducible refine Kd.C_alloc ?_ _) | (with_reducible refine Kd.C_drewN ?_ _) | (with_reducible refine Kd.C_drew ?_))); (case side2 => exact (Kd.R_reads' HO186.out).2.1); rintro e w18 ⟨v189, rfl, ho0, hb⟩; refine ⟨_, rfl, ?_⟩; have n0_ := Aside0.mk (Kd.R_elder' (by (with_reducible repeat (first | apply Kd.R_alloc | apply Kd.R_drewN | apply Kd.R_drew)); exact HO186.out) (Kd.R_base ho0) hb); have n1_ := Aside0.mk (Kd.R_lower (Kd.R_new' ho0 (Kd.R_lt (by (with_reducible repeat (first | apply Kd.R_alloc | apply Kd.R_drewN | apply Kd.R_drew)); exact HO186.out))) (below_size (by repeat (first | (with_reducible first | exact HB.out | apply below_alloc | apply pw_below_drewN | apply below_drew1 | refine below_set ?_ GE181.out) | exact HB.out)))); have n2_ := sqb BK181 hb; have n3_ := sqs HB hb; clear HO186; clear BK181; clear HB; have HO186 := n0_; have HO190 := n1_; have BK181 := n2_; have HB := n3_; clear n0_ n1_ n2_ n3_; (try clear hb); (try clear hb2); (try clear hk); (try clear hi); (try clear ho0)) | ((with_reducible refine gate_dst (N := 4) rfl ?_); refine sqx 4 #[.int .i64 0, .slice none 0 0] 29 ?_; intro gb192 hg w19 hbox hb; have n0_ := Aside0.mk (Kd.R_below (by (with_reducible repeat (first | apply Kd.R_alloc | apply Kd.R_drewN | apply Kd.R_drew)); exact HO186.out) hb); have n1_ := Aside0.mk (Kd.R_below (by (with_reducible repeat (first | apply Kd.R_alloc | apply Kd.R_drewN | apply Kd.R_drew)); exact HO190.out) hb); have n2_ := sqb BK181 hb; have n3_ := sqs HB hb; have n4_ := Aside0.mk (hbox); have n5_ := sqg HB hg; have n6_ := sqg HB hg; have n7_ := sqn BK181 hg; have n8_ := sqm BK181 hg; clear HO186; clear HO190; clear BK181; clear HB; have HO186 := n0_; have HO190 := n1_; have BK181 := n2_; have HB := n3_; have BK192 := n4_; have GW192 := n5_; have GE192 := n6_; have NB181_192 := n7_; have NB192_181 := n8_; clear n0_ n1_ n2_ n3_ n4_ n5_ n6_ n7_ n8_; clear hb hbox hg; have hnb20 := NB192_181.out; have hnc20 := NB181_192.out; obtain ⟨hcz21_0, hcz21_1, hfz21_0, hfz21_1⟩ := sqc2 BK192; obtain ⟨Ao22, co22, eo22⟩ := Kd.R_slice HO190.out; subst eo22; obtain ⟨hcz23_0, hcz23_1, hfz23_0, hfz23_1⟩ := sqc2 BK181) | ((with_reducible refine gate_callee (f := 16) rfl ?_); refine sqL (some 26) Try.func16 #[.agg #[.int .i64 a0_0, .slice A0_1 l0_1.length c0_1]] ?_; (with_reducible refine (laws_toGaps.calls k a0_0 _ _ l0_1 t193 t194 _ ?side1 ?side2 A9.out).mono ?_); (case side1 => exact Kd.C_below HR0_1.out (by repeat (first | (with_reducible first | exact HB.out | apply below_alloc | apply pw_below_drewN | apply below_drew1 | refine below_set ?_ GE181.out | refine below_set ?_ GE192.out) | exact HB.out))); (case side2 => exact HC0_1.out); rintro e w24 ⟨v195, rfl, ho0, hb⟩; refine ⟨_, rfl, ?_⟩; have n0_ := Aside0.mk (Kd.R_elder' (by (with_reducible repeat (first | apply Kd.R_alloc | apply Kd.R_drewN | apply Kd.R_drew)); exact (Kd.R_mono (Kd.R_far (p := ⟨gb192, 1, none⟩) (Kd.R_far (p := ⟨gb192, 0, none⟩) (Kd.R_types HO186.out BK192.out (by decide)) (fun _ hk => hk.2) (.int .i64 t187)) (fun _ hk => hk.2) (.slice Ao22 t188.length co22)) (fun _ h_ => h_.1))) (Kd.R_base ho0) hb); have n1_ := Aside0.mk (Kd.R_elder' (by (with_reducible repeat (first | apply Kd.R_alloc | apply Kd.R_drewN | apply Kd.R_drew)); exact (Kd.R_mono (Kd.R_far (p := ⟨gb192, 1, none⟩) (Kd.R_far (p := ⟨gb192, 0, none⟩) (Kd.R_types HO190.out BK192.out (by decide)) (fun _ hk => hk.2) (.int .i64 t187)) (fun _ hk => hk.2) (.slice Ao22 t188.length co22)) (fun _ h_ => h_.1))) (Kd.R_base ho0) hb); have n2_ := Aside0.mk (Kd.R_lower (Kd.R_new' (Kd.R_new' ho0 (Kd.R_lt (by (with_reducible repeat (first | apply Kd.R_alloc | apply Kd.R_drewN | apply Kd.R_drew)); exact (Kd.R_mono (Kd.R_far (p := ⟨gb192, 1, none⟩) (Kd.R_far (p := ⟨gb192, 0, none⟩) (Kd.R_types HO186.out BK192.out (by decide)) (fun _ hk => hk.2) (.int .i64 t187)) (fun _ hk => hk.2) (.slice Ao22 t188.length co22)) (fun _ h_ => h_.1))))) (Kd.R_lt (by (with_reducible repeat (first | apply Kd.R_alloc | apply Kd.R_drewN | apply Kd.R_drew)); exact (Kd.R_mono (Kd.R_far (p := ⟨gb192, 1, none⟩) (Kd.R_far (p := ⟨gb192, 0, none⟩) (Kd.R_types HO190.out BK192.out (by decide)) (fun _ hk => hk.2) (.int .i64 t187)) (fun _ hk => hk.2) (.slice Ao22 t188.length co22)) (fun _ h_ => h_.1))))) (below_size (by repeat (first | (with_reducible first | exact HB.out | apply below_alloc | apply pw_below_drewN | apply below_drew1 | refine below_set ?_ GE181.out | refine below_set ?_ GE192.out) | exact HB.out)))); have n3_ := Aside0.mk (blk_below (g := gb181) (o := .cells #[.int .i64 a0_0, .slice A0_1 l0_1.length c0_1] 24 (0, 0)) (by refine sqt ?_; refine blk_far ?_ NB181_192.out _; refine sqt ?_; refine blk_far ?_ NB181_192.out _; refine sqt ?_; exact BK181.out) hb); have n4_ := Aside0.mk (blk_below (g := gb192) (o := .cells #[.int .i64 t187, .slice Ao22 t188.length co22] 29 (0, 0)) (by refine sqt ?_; refine blk_put (cs := #[.int .i64 t187, .slice none 0 0]) ?_ 1 _ rfl; refine sqt ?_; refine blk_put (cs := #[.int .i64 0, .slice none 0 0]) ?_ 0 _ rfl; refine sqt ?_; exact BK192.out) hb); have n5_ := sqs HB hb; clear HO186; clear HO190; clear BK181; clear BK192; clear HB; have HO186 := n0_; have HO190 := n1_; have HO196 := n2_; have BK181 := n3_; have BK192 := n4_; have HB := n5_; clear n0_ n1_ n2_ n3_ n4_ n5_; (try clear hb); (try clear hb2); (try clear hk); (try clear hi); (try clear ho0)) | ((with_reducible refine gate_dst (N := 6) rfl ?_); refine sqx 6 #[.int .i64 0, .slice none 0 0] 29 ?_; intro gb197 hg w25 hbox hb; have n0_ := Aside0.mk (Kd.R_below (by (with_reducible repeat (first | apply Kd.R_alloc | apply Kd.R_drewN | apply Kd.R_drew)); exact HO186.out) hb); have n1_ := Aside0.mk (Kd.R_below (by (with_reducible repeat (first | apply Kd.R_alloc | apply Kd.R_drewN | apply Kd.R_drew)); exact HO190.out) hb); have n2_ := Aside0.mk (Kd.R_below (by (with_reducible repeat (first | apply Kd.R_alloc | apply Kd.R_drewN | apply Kd.R_drew)); exact HO196.out) hb); have n3_ := sqb BK181 hb; have n4_ := sqb BK192 hb; have n5_ := sqs HB hb; have n6_ := Aside0.mk (hbox); have n7_ := sqg HB hg; have n8_ := sqg HB hg; have n9_ := sqn BK181 hg; have n10_ := sqm BK181 hg; have n11_ := sqn BK192 hg; have n12_ := sqm BK192 hg; clear HO186; clear HO190; clear HO196; clear BK181; clear BK192; clear HB; have HO186 := n0_; have HO190 := n1_; have HO196 := n2_; have BK181 := n3_; have BK192 := n4_; have HB := n5_; have BK197 := n6_; have GW197 := n7_; have GE197 := n8_; have NB181_197 := n9_; have NB197_181 := n10_; have NB192_197 := n11_; have NB197_192 := n12_; clear n0_ n1_ n2_ n3_ n4_ n5_ n6_ n7_ n8_ n9_ n10_ n11_ n12_; clear hb hbox hg; have hnb26 := NB197_181.out; have hnc26 := NB181_197.out; have hnb27 := NB197_192.out; have hnc27 := NB192_197.out; obtain ⟨hcz28_0, hcz28_1, hfz28_0, hfz28_1⟩ := sqc2 BK197; obtain ⟨Ao29, co29, eo29⟩ := Kd.R_slice HO196.out; subst eo29) | ((with_reducible refine gate_callee (f := 31) rfl ?_); refine sqL (some 29) Try.func31 #[.agg #[.int .i64 t193, .slice Ao29 t194.length co29]] ?_; (with_reducible refine (impl_GapsClose.calls k t193 _ _ t194 t198 t199 t202 _ ?side1 ?side2 A10.out).mono ?_); (case side1 => refine (Kd.R_reads' (e := 3) (base := w.heap.size) (ok := fun k_ => ((True ∧ some k_ ≠ (.slice Ao17 t184.length co17 : Value).ownBlock) ∧ some k_ ≠ (.slice Ao22 t188.length co22 : Value).ownBlock)) (n := t194.length) (c := co29) ?_).2.2; exact (by (with_reducible repeat (first | apply Kd.R_alloc | apply Kd.R_drewN | apply Kd.R_drew)); exact (Kd.R_mono (Kd.R_far (p := ⟨gb197, 1, none⟩) (Kd.R_far (p := ⟨gb197, 0, none⟩) (Kd.R_types HO196.out BK197.out (by decide)) (fun _ hk => hk.2) (.int .i64 t193)) (fun _ hk => hk.2) (.slice Ao29 t194.length co29)) (fun _ h_ => h_.1)))); (case side2 => exact (Kd.R_reads' HO196.out).2.1); rintro e w30 ⟨v200, rfl, ho0, hb⟩; refine ⟨_, rfl, ?_⟩; have n0_ := Aside0.mk (Kd.R_elder' (by (with_reducible repeat (first | apply Kd.R_alloc | apply Kd.R_drewN | apply Kd.R_drew)); exact (Kd.R_mono (Kd.R_far (p := ⟨gb197, 1, none⟩) (Kd.R_far (p := ⟨gb197, 0, none⟩) (Kd.R_types HO186.out BK197.out (by decide)) (fun _ hk => hk.2) (.int .i64 t193)) (fun _ hk => hk.2) (.slice Ao29 t194.length co29)) (fun _ h_ => h_.1))) (Kd.R_base ho0) hb); have n1_ := Aside0.mk (Kd.R_elder' (by (with_reducible repeat (first | apply Kd.R_alloc | apply Kd.R_drewN | apply Kd.R_drew)); exact (Kd.R_mono (Kd.R_far (p := ⟨gb197, 1, none⟩) (Kd.R_far (p := ⟨gb197, 0, none⟩) (Kd.R_types HO190.out BK197.out (by decide)) (fun _ hk => hk.2) (.int .i64 t193)) (fun _ hk => hk.2) (.slice Ao29 t194.length co29)) (fun _ h_ => h_.1))) (Kd.R_base ho0) hb); have n2_ := Aside0.mk (Kd.R_elder' (by (with_reducible repeat (first | apply Kd.R_alloc | apply Kd.R_drewN | apply Kd.R_drew)); exact (Kd.R_mono (Kd.R_far (p := ⟨gb197, 1, none⟩) (Kd.R_far (p := ⟨gb197, 0, none⟩) (Kd.R_types HO196.out BK197.out (by decide)) (fun _ hk => hk.2) (.int .i64 t193)) (fun _ hk => hk.2) (.slice Ao29 t194.length co29)) (fun _ h_ => h_.1))) (Kd.R_base ho0) hb); have n3_ := Aside0.mk (Kd.R_lower (Kd.R_new' (Kd.R_new' (Kd.R_new' ho0 (Kd.R_lt (by (with_reducible repeat (first | apply Kd.R_alloc | apply Kd.R_drewN | apply Kd.R_drew)); exact (Kd.R_mono (Kd.R_far (p := ⟨gb197, 1, none⟩) (Kd.R_far (p := ⟨gb197, 0, none⟩) (Kd.R_types HO186.out BK197.out (by decide)) (fun _ hk => hk.2) (.int .i64 t193)) (fun _ hk => hk.2) (.slice Ao29 t194.length co29)) (fun _ h_ => h_.1))))) (Kd.R_lt (by (with_reducible repeat (first | apply Kd.R_alloc | apply Kd.R_drewN | apply Kd.R_drew)); exact (Kd.R_mono (Kd.R_far (p := ⟨gb197, 1, none⟩) (Kd.R_far (p := ⟨gb197, 0, none⟩) (Kd.R_types HO190.out BK197.out (by decide)) (fun _ hk => hk.2) (.int .i64 t193)) (fun _ hk => hk.2) (.slice Ao29 t194.length co29)) (fun _ h_ => h_.1))))) (Kd.R_lt (by (with_reducible repeat (first | apply Kd.R_alloc | apply Kd.R_drewN | apply Kd.R_drew)); exact (Kd.R_mono (Kd.R_far (p := ⟨gb197, 1, none⟩) (Kd.R_far (p := ⟨gb197, 0, none⟩) (Kd.R_types HO196.out BK197.out (by decide)) (fun _ hk => hk.2) (.int .i64 t193)) (fun _ hk => hk.2) (.slice Ao29 t194.length co29)) (fun _ h_ => h_.1))))) (below_size (by repeat (first | (with_reducible first | exact HB.out | apply below_alloc | apply pw_below_drewN | apply below_drew1 | refine below_set ?_ GE181.out | refine below_set ?_ GE192.out | refine below_set ?_ GE197.out) | exact HB.out)))); have n4_ := Aside0.mk (blk_below (g := gb181) (o := .cells #[.int .i64 a0_0, .slice A0_1 l0_1.length c0_1] 24 (0, 0)) (by refine sqt ?_; refine blk_far ?_ NB181_197.out _; refine sqt ?_; refine blk_far ?_ NB181_197.out _; refine sqt ?_; exact BK181.out) hb); have n5_ := Aside0.mk (blk_below (g := gb192) (o := .cells #[.int .i64 t187, .slice Ao22 t188.length co22] 29 (0, 0)) (by refine sqt ?_; refine blk_far ?_ NB192_197.out _; refine sqt ?_; refine blk_far ?_ NB192_197.out _; refine sqt ?_; exact BK192.out) hb); have n6_ := Aside0.mk (blk_below (g := gb197) (o := .cells #[.int .i64 t193, .slice Ao29 t194.length co29] 29 (0, 0)) (by refine sqt ?_; refine blk_put (cs := #[.int .i64 t193, .slice none 0 0]) ?_ 1 _ rfl; refine sqt ?_; refine blk_put (cs := #[.int .i64 0, .slice none 0 0]) ?_ 0 _ rfl; refine sqt ?_; exact BK197.out) hb); have n7_ := sqs HB hb; clear HO186; clear HO190; clear HO196; clear BK181; clear BK192; clear BK197; clear HB; have HO186 := n0_; have HO190 := n1_; have HO196 := n2_; have HO201 := n3_; have BK181 := n4_; have BK192 := n5_; have BK197 := n6_; have HB := n7_; clear n0_ n1_ n2_ n3_ n4_ n5_ n6_ n7_; (try clear hb); (try clear hb2); (try clear hk); (try clear hi); (try clear ho0)) | ((with_reducible refine gate_dst (N := 7) rfl ?_); refine sqx 7 #[.int .i64 0, .slice none 0 0] 29 ?_; intro gb203 hg w31 hbox hb; have n0_ := Aside0.mk (Kd.R_below (by (with_reducible repeat (first | apply Kd.R_alloc | apply Kd.R_drewN | apply Kd.R_drew)); exact HO186.out) hb); have n1_ := Aside0.mk (Kd.R_below (by (with_reducible repeat (first | apply Kd.R_alloc | apply Kd.R_drewN | apply Kd.R_drew)); exact HO190.out) hb); have n2_ := Aside0.mk (Kd.R_below (by (with_reducible repeat (first | apply Kd.R_alloc | apply Kd.R_drewN | apply Kd.R_drew)); exact HO196.out) hb); have n3_ := Aside0.mk (Kd.R_below (by (with_reducible repeat (first | apply Kd.R_alloc | apply Kd.R_drewN | apply Kd.R_drew)); exact HO201.out) hb); have n4_ := sqb BK181 hb; have n5_ := sqb BK192 hb; have n6_ := sqb BK197 hb; have n7_ := sqs HB hb; have n8_ := Aside0.mk (hbox); have n9_ := sqg HB hg; have n10_ := sqg HB hg; have n11_ := sqn BK181 hg; have n12_ := sqm BK181 hg; have n13_ := sqn BK192 hg; have n14_ := sqm BK192 hg; have n15_ := sqn BK197 hg; have n16_ := sqm BK197 hg; clear HO186; clear HO190; clear HO196; clear HO201; clear BK181; clear BK192; clear BK197; clear HB; have HO186 := n0_; have HO190 := n1_; have HO196 := n2_; have HO201 := n3_; have BK181 := n4_; have BK192 := n5_; have BK197 := n6_; have HB := n7_; have BK203 := n8_; have GW203 := n9_; have GE203 := n10_; have NB181_203 := n11_; have NB203_181 := n12_; have NB192_203 := n13_; have NB203_192 := n14_; have NB197_203 := n15_; have NB203_197 := n16_; clear n0_ n1_ n2_ n3_ n4_ n5_ n6_ n7_ n8_ n9_ n10_ n11_ n12_ n13_ n14_ n15_ n16_; clear hb hbox hg; have hnb32 := NB203_181.out; have hnc32 := NB181_203.out; have hnb33 := NB203_192.out; have hnc33 := NB192_203.out; have hnb34 := NB203_197.out; have hnc34 := NB197_203.out; obtain ⟨hcz35_0, hcz35_1, hfz35_0, hfz35_1⟩ := sqc2 BK203; obtain ⟨Ao36, co36, eo36⟩ := Kd.R_slice HO201.out; subst eo36))
    (try simp only [Act.put, List.setIfInBounds_toArray, List.set_cons_zero, List.set_cons_succ])
    go_cut [40] (fun v40 wc => ∃ (kq : Nat) (x40_10 : Bool), v40 = .bool x40_10 ∧ Aside0 (laws_FnExactGapsClose.j0 kq t191 t202 x40_10 a0_0 l0_1 t187 t188 t193 t194 t198 t199 = some r) ∧ Aside0 (kq ≤ k) ∧ Aside0 (Kd.R (Kd.int .i64) 3 wc w.heap.size (fun k_ => some k_ ≠ ((.slice Ao29 t194.length co29) : Value).ownBlock ∧ some k_ ≠ ((.slice Ao36 t199.length co36) : Value).ownBlock) (.slice Ao22 t188.length co22) t188) ∧ Aside0 (Kd.R (Kd.int .i64) 3 wc w.heap.size (fun k_ => some k_ ≠ ((.slice Ao22 t188.length co22) : Value).ownBlock ∧ some k_ ≠ ((.slice Ao36 t199.length co36) : Value).ownBlock) (.slice Ao29 t194.length co29) t194) ∧ Aside0 (Kd.R (Kd.int .i64) 3 wc w.heap.size (fun k_ => some k_ ≠ ((.slice Ao22 t188.length co22) : Value).ownBlock ∧ some k_ ≠ ((.slice Ao29 t194.length co29) : Value).ownBlock) (.slice Ao36 t199.length co36) t199) ∧ Aside0 (wc.heap[gb181]? = some (.cells #[.int .i64 a0_0, (.slice A0_1 l0_1.length c0_1)] 24 (0, 0))) ∧ Aside0 (wc.heap[gb192]? = some (.cells #[.int .i64 t187, (.slice Ao22 t188.length co22)] 29 (0, 0))) ∧ Aside0 (wc.heap[gb197]? = some (.cells #[.int .i64 t193, (.slice Ao29 t194.length co29)] 29 (0, 0))) ∧ Aside0 (wc.heap[gb203]? = some (.cells #[.int .i64 t198, (.slice Ao36 t199.length co36)] 29 (0, 0))) ∧ Aside0 (Below w.heap.size w wc))
    case first =>
      as_aux_lemma =>
      have H := HC11.out
      clear HC11
      replace H := Option.bind_eq_some_iff.mp H
      obtain ⟨t204, A370, H⟩ := H
      replace H : (if t204 = true then (laws_FnExactGapsClose.j0 k t191 t202 (t202 != t191) a0_0 l0_1 t187 t188 t193 t194 t198 t199) else (laws_FnExactGapsClose.j0 k t191 t202 true a0_0 l0_1 t187 t188 t193 t194 t198 t199)) = some r := H
      have A37 := Aside0.mk A370
      clear A370
      by_cases c38 : t204 = true
      · subst c38
        have H1 : (laws_FnExactGapsClose.j0 k t191 t202 (t202 != t191) a0_0 l0_1 t187 t188 t193 t194 t198 t199) = some r := by rw [if_pos rfl] at H; exact H
        clear H
        have H := H1
        clear H1
        have H' := Aside0.mk H
        clear H
        have hnb39 := NB203_181.out
        have hnc39 := NB181_203.out
        have hnb40 := NB203_192.out
        have hnc40 := NB192_203.out
        have hnb41 := NB203_197.out
        have hnc41 := NB197_203.out
        obtain ⟨hcz42_0, hcz42_1, hfz42_0, hfz42_1⟩ := sqc2 BK203
        have hnb43 := NB192_181.out
        have hnc43 := NB181_192.out
        have hnb44 := NB192_197.out
        have hnc44 := NB197_192.out
        obtain ⟨hcz45_0, hcz45_1, hfz45_0, hfz45_1⟩ := sqc2 BK192
        go_wp2_with (first | ((with_reducible refine gate_callee (f := 19) rfl ?_); refine sqL (some 34) Try.func19 #[.agg #[.int .i64 t198, .slice Ao36 t199.length co36], .agg #[.int .i64 t187, .slice Ao22 t188.length co22]] ?_; (with_reducible refine (laws_eqGaps.calls k t198 _ _ t199 t187 _ _ t188 true _ ?side1 ?side2 ?side3 ?side4 A37.out).mono ?_); (case side1 => refine (Kd.R_reads' (e := 3) (base := w.heap.size) (ok := fun k_ => (((True ∧ some k_ ≠ (.slice Ao17 t184.length co17 : Value).ownBlock) ∧ some k_ ≠ (.slice Ao22 t188.length co22 : Value).ownBlock) ∧ some k_ ≠ (.slice Ao29 t194.length co29 : Value).ownBlock)) (n := t199.length) (c := co36) ?_).2.2; exact (by (with_reducible repeat (first | apply Kd.R_alloc | apply Kd.R_drewN | apply Kd.R_drew)); exact (Kd.R_mono (Kd.R_far (p := ⟨gb203, 1, none⟩) (Kd.R_far (p := ⟨gb203, 0, none⟩) (Kd.R_types HO201.out BK203.out (by decide)) (fun _ hk => hk.2) (.int .i64 t198)) (fun _ hk => hk.2) (.slice Ao36 t199.length co36)) (fun _ h_ => h_.1)))); (case side2 => exact (Kd.R_reads' HO201.out).2.1); (case side3 => refine (Kd.R_reads' (e := 3) (base := w.heap.size) (ok := fun k_ => (((True ∧ some k_ ≠ (.slice Ao17 t184.length co17 : Value).ownBlock) ∧ some k_ ≠ (.slice Ao29 t194.length co29 : Value).ownBlock) ∧ some k_ ≠ (.slice Ao36 t199.length co36 : Value).ownBlock)) (n := t188.length) (c := co22) ?_).2.2; exact (by (with_reducible repeat (first | apply Kd.R_alloc | apply Kd.R_drewN | apply Kd.R_drew)); exact (Kd.R_mono (Kd.R_far (p := ⟨gb203, 1, none⟩) (Kd.R_far (p := ⟨gb203, 0, none⟩) (Kd.R_types HO190.out BK203.out (by decide)) (fun _ hk => hk.2) (.int .i64 t198)) (fun _ hk => hk.2) (.slice Ao36 t199.length co36)) (fun _ h_ => h_.1)))); (case side4 => exact (Kd.R_reads' HO190.out).2.1); rintro e w46 ⟨rfl, hb⟩; refine ⟨_, rfl, ?_⟩; have n0_ := Aside0.mk (Kd.R_below (by (with_reducible repeat (first | apply Kd.R_alloc | apply Kd.R_drewN | apply Kd.R_drew)); exact (Kd.R_mono (Kd.R_far (p := ⟨gb203, 1, none⟩) (Kd.R_far (p := ⟨gb203, 0, none⟩) (Kd.R_types HO186.out BK203.out (by decide)) (fun _ hk => hk.2) (.int .i64 t198)) (fun _ hk => hk.2) (.slice Ao36 t199.length co36)) (fun _ h_ => h_.1))) hb); have n1_ := Aside0.mk (Kd.R_below (by (with_reducible repeat (first | apply Kd.R_alloc | apply Kd.R_drewN | apply Kd.R_drew)); exact (Kd.R_mono (Kd.R_far (p := ⟨gb203, 1, none⟩) (Kd.R_far (p := ⟨gb203, 0, none⟩) (Kd.R_types HO190.out BK203.out (by decide)) (fun _ hk => hk.2) (.int .i64 t198)) (fun _ hk => hk.2) (.slice Ao36 t199.length co36)) (fun _ h_ => h_.1))) hb); have n2_ := Aside0.mk (Kd.R_below (by (with_reducible repeat (first | apply Kd.R_alloc | apply Kd.R_drewN | apply Kd.R_drew)); exact (Kd.R_mono (Kd.R_far (p := ⟨gb203, 1, none⟩) (Kd.R_far (p := ⟨gb203, 0, none⟩) (Kd.R_types HO196.out BK203.out (by decide)) (fun _ hk => hk.2) (.int .i64 t198)) (fun _ hk => hk.2) (.slice Ao36 t199.length co36)) (fun _ h_ => h_.1))) hb); have n3_ := Aside0.mk (Kd.R_below (by (with_reducible repeat (first | apply Kd.R_alloc | apply Kd.R_drewN | apply Kd.R_drew)); exact (Kd.R_mono (Kd.R_far (p := ⟨gb203, 1, none⟩) (Kd.R_far (p := ⟨gb203, 0, none⟩) (Kd.R_types HO201.out BK203.out (by decide)) (fun _ hk => hk.2) (.int .i64 t198)) (fun _ hk => hk.2) (.slice Ao36 t199.length co36)) (fun _ h_ => h_.1))) hb); have n4_ := Aside0.mk (blk_below (g := gb181) (o := .cells #[.int .i64 a0_0, .slice A0_1 l0_1.length c0_1] 24 (0, 0)) (by refine sqt ?_; refine blk_far ?_ NB181_203.out _; refine sqt ?_; refine blk_far ?_ NB181_203.out _; refine sqt ?_; exact BK181.out) hb); have n5_ := Aside0.mk (blk_below (g := gb192) (o := .cells #[.int .i64 t187, .slice Ao22 t188.length co22] 29 (0, 0)) (by refine sqt ?_; refine blk_far ?_ NB192_203.out _; refine sqt ?_; refine blk_far ?_ NB192_203.out _; refine sqt ?_; exact BK192.out) hb); have n6_ := Aside0.mk (blk_below (g := gb197) (o := .cells #[.int .i64 t193, .slice Ao29 t194.length co29] 29 (0, 0)) (by refine sqt ?_; refine blk_far ?_ NB197_203.out _; refine sqt ?_; refine blk_far ?_ NB197_203.out _; refine sqt ?_; exact BK197.out) hb); have n7_ := Aside0.mk (blk_below (g := gb203) (o := .cells #[.int .i64 t198, .slice Ao36 t199.length co36] 29 (0, 0)) (by refine sqt ?_; refine blk_put (cs := #[.int .i64 t198, .slice none 0 0]) ?_ 1 _ rfl; refine sqt ?_; refine blk_put (cs := #[.int .i64 0, .slice none 0 0]) ?_ 0 _ rfl; refine sqt ?_; exact BK203.out) hb); have n8_ := sqs HB hb; clear HO186; clear HO190; clear HO196; clear HO201; clear BK181; clear BK192; clear BK197; clear BK203; clear HB; have HO186 := n0_; have HO190 := n1_; have HO196 := n2_; have HO201 := n3_; have BK181 := n4_; have BK192 := n5_; have BK197 := n6_; have BK203 := n7_; have HB := n8_; clear n0_ n1_ n2_ n3_ n4_ n5_ n6_ n7_ n8_; (try clear hb); (try clear hb2); (try clear hk); (try clear hi)))
        go_meet
        case rel => exact ⟨_, ((t202 != t191)), (by first | rfl | (simp; done) | (simp [*]; done)), H', ⟨by first | omega | exact Nat.le_refl _⟩, ⟨by (with_reducible repeat (first | apply Kd.R_alloc | apply Kd.R_drewN | apply Kd.R_drew)); exact Kd.R_mono HO190.out (fun _ hk => ⟨hk.1.2, hk.2⟩)⟩, ⟨by (with_reducible repeat (first | apply Kd.R_alloc | apply Kd.R_drewN | apply Kd.R_drew)); exact Kd.R_mono HO196.out (fun _ hk => ⟨hk.1.2, hk.2⟩)⟩, ⟨by (with_reducible repeat (first | apply Kd.R_alloc | apply Kd.R_drewN | apply Kd.R_drew)); exact Kd.R_mono HO201.out (fun _ hk => ⟨hk.1.2, hk.2⟩)⟩, sqk BK181, sqk BK192, sqk BK197, sqk BK203, sqh HB⟩
      · replace c38 := Bool.eq_false_iff.mpr c38
        subst c38
        have H1 : (laws_FnExactGapsClose.j0 k t191 t202 true a0_0 l0_1 t187 t188 t193 t194 t198 t199) = some r := by rw [if_neg (show ¬ (false = true) by decide)] at H; exact H
        clear H
        have H := H1
        clear H1
        have H' := Aside0.mk H
        clear H
        have hnb47 := NB203_181.out
        have hnc47 := NB181_203.out
        have hnb48 := NB203_192.out
        have hnc48 := NB192_203.out
        have hnb49 := NB203_197.out
        have hnc49 := NB197_203.out
        obtain ⟨hcz50_0, hcz50_1, hfz50_0, hfz50_1⟩ := sqc2 BK203
        have hnb51 := NB192_181.out
        have hnc51 := NB181_192.out
        have hnb52 := NB192_197.out
        have hnc52 := NB197_192.out
        obtain ⟨hcz53_0, hcz53_1, hfz53_0, hfz53_1⟩ := sqc2 BK192
        go_wp2_with (first | ((with_reducible refine gate_callee (f := 19) rfl ?_); refine sqL (some 34) Try.func19 #[.agg #[.int .i64 t198, .slice Ao36 t199.length co36], .agg #[.int .i64 t187, .slice Ao22 t188.length co22]] ?_; (with_reducible refine (laws_eqGaps.calls k t198 _ _ t199 t187 _ _ t188 false _ ?side1 ?side2 ?side3 ?side4 A37.out).mono ?_); (case side1 => refine (Kd.R_reads' (e := 3) (base := w.heap.size) (ok := fun k_ => (((True ∧ some k_ ≠ (.slice Ao17 t184.length co17 : Value).ownBlock) ∧ some k_ ≠ (.slice Ao22 t188.length co22 : Value).ownBlock) ∧ some k_ ≠ (.slice Ao29 t194.length co29 : Value).ownBlock)) (n := t199.length) (c := co36) ?_).2.2; exact (by (with_reducible repeat (first | apply Kd.R_alloc | apply Kd.R_drewN | apply Kd.R_drew)); exact (Kd.R_mono (Kd.R_far (p := ⟨gb203, 1, none⟩) (Kd.R_far (p := ⟨gb203, 0, none⟩) (Kd.R_types HO201.out BK203.out (by decide)) (fun _ hk => hk.2) (.int .i64 t198)) (fun _ hk => hk.2) (.slice Ao36 t199.length co36)) (fun _ h_ => h_.1)))); (case side2 => exact (Kd.R_reads' HO201.out).2.1); (case side3 => refine (Kd.R_reads' (e := 3) (base := w.heap.size) (ok := fun k_ => (((True ∧ some k_ ≠ (.slice Ao17 t184.length co17 : Value).ownBlock) ∧ some k_ ≠ (.slice Ao29 t194.length co29 : Value).ownBlock) ∧ some k_ ≠ (.slice Ao36 t199.length co36 : Value).ownBlock)) (n := t188.length) (c := co22) ?_).2.2; exact (by (with_reducible repeat (first | apply Kd.R_alloc | apply Kd.R_drewN | apply Kd.R_drew)); exact (Kd.R_mono (Kd.R_far (p := ⟨gb203, 1, none⟩) (Kd.R_far (p := ⟨gb203, 0, none⟩) (Kd.R_types HO190.out BK203.out (by decide)) (fun _ hk => hk.2) (.int .i64 t198)) (fun _ hk => hk.2) (.slice Ao36 t199.length co36)) (fun _ h_ => h_.1)))); (case side4 => exact (Kd.R_reads' HO190.out).2.1); rintro e w54 ⟨rfl, hb⟩; refine ⟨_, rfl, ?_⟩; have n0_ := Aside0.mk (Kd.R_below (by (with_reducible repeat (first | apply Kd.R_alloc | apply Kd.R_drewN | apply Kd.R_drew)); exact (Kd.R_mono (Kd.R_far (p := ⟨gb203, 1, none⟩) (Kd.R_far (p := ⟨gb203, 0, none⟩) (Kd.R_types HO186.out BK203.out (by decide)) (fun _ hk => hk.2) (.int .i64 t198)) (fun _ hk => hk.2) (.slice Ao36 t199.length co36)) (fun _ h_ => h_.1))) hb); have n1_ := Aside0.mk (Kd.R_below (by (with_reducible repeat (first | apply Kd.R_alloc | apply Kd.R_drewN | apply Kd.R_drew)); exact (Kd.R_mono (Kd.R_far (p := ⟨gb203, 1, none⟩) (Kd.R_far (p := ⟨gb203, 0, none⟩) (Kd.R_types HO190.out BK203.out (by decide)) (fun _ hk => hk.2) (.int .i64 t198)) (fun _ hk => hk.2) (.slice Ao36 t199.length co36)) (fun _ h_ => h_.1))) hb); have n2_ := Aside0.mk (Kd.R_below (by (with_reducible repeat (first | apply Kd.R_alloc | apply Kd.R_drewN | apply Kd.R_drew)); exact (Kd.R_mono (Kd.R_far (p := ⟨gb203, 1, none⟩) (Kd.R_far (p := ⟨gb203, 0, none⟩) (Kd.R_types HO196.out BK203.out (by decide)) (fun _ hk => hk.2) (.int .i64 t198)) (fun _ hk => hk.2) (.slice Ao36 t199.length co36)) (fun _ h_ => h_.1))) hb); have n3_ := Aside0.mk (Kd.R_below (by (with_reducible repeat (first | apply Kd.R_alloc | apply Kd.R_drewN | apply Kd.R_drew)); exact (Kd.R_mono (Kd.R_far (p := ⟨gb203, 1, none⟩) (Kd.R_far (p := ⟨gb203, 0, none⟩) (Kd.R_types HO201.out BK203.out (by decide)) (fun _ hk => hk.2) (.int .i64 t198)) (fun _ hk => hk.2) (.slice Ao36 t199.length co36)) (fun _ h_ => h_.1))) hb); have n4_ := Aside0.mk (blk_below (g := gb181) (o := .cells #[.int .i64 a0_0, .slice A0_1 l0_1.length c0_1] 24 (0, 0)) (by refine sqt ?_; refine blk_far ?_ NB181_203.out _; refine sqt ?_; refine blk_far ?_ NB181_203.out _; refine sqt ?_; exact BK181.out) hb); have n5_ := Aside0.mk (blk_below (g := gb192) (o := .cells #[.int .i64 t187, .slice Ao22 t188.length co22] 29 (0, 0)) (by refine sqt ?_; refine blk_far ?_ NB192_203.out _; refine sqt ?_; refine blk_far ?_ NB192_203.out _; refine sqt ?_; exact BK192.out) hb); have n6_ := Aside0.mk (blk_below (g := gb197) (o := .cells #[.int .i64 t193, .slice Ao29 t194.length co29] 29 (0, 0)) (by refine sqt ?_; refine blk_far ?_ NB197_203.out _; refine sqt ?_; refine blk_far ?_ NB197_203.out _; refine sqt ?_; exact BK197.out) hb); have n7_ := Aside0.mk (blk_below (g := gb203) (o := .cells #[.int .i64 t198, .slice Ao36 t199.length co36] 29 (0, 0)) (by refine sqt ?_; refine blk_put (cs := #[.int .i64 t198, .slice none 0 0]) ?_ 1 _ rfl; refine sqt ?_; refine blk_put (cs := #[.int .i64 0, .slice none 0 0]) ?_ 0 _ rfl; refine sqt ?_; exact BK203.out) hb); have n8_ := sqs HB hb; clear HO186; clear HO190; clear HO196; clear HO201; clear BK181; clear BK192; clear BK197; clear BK203; clear HB; have HO186 := n0_; have HO190 := n1_; have HO196 := n2_; have HO201 := n3_; have BK181 := n4_; have BK192 := n5_; have BK197 := n6_; have BK203 := n7_; have HB := n8_; clear n0_ n1_ n2_ n3_ n4_ n5_ n6_ n7_ n8_; (try clear hb); (try clear hb2); (try clear hk); (try clear hi)))
        go_meet
        case rel => exact ⟨_, (true), (by first | rfl | (simp; done) | (simp [*]; done)), H', ⟨by first | omega | exact Nat.le_refl _⟩, ⟨by (with_reducible repeat (first | apply Kd.R_alloc | apply Kd.R_drewN | apply Kd.R_drew)); exact Kd.R_mono HO190.out (fun _ hk => ⟨hk.1.2, hk.2⟩)⟩, ⟨by (with_reducible repeat (first | apply Kd.R_alloc | apply Kd.R_drewN | apply Kd.R_drew)); exact Kd.R_mono HO196.out (fun _ hk => ⟨hk.1.2, hk.2⟩)⟩, ⟨by (with_reducible repeat (first | apply Kd.R_alloc | apply Kd.R_drewN | apply Kd.R_drew)); exact Kd.R_mono HO201.out (fun _ hk => ⟨hk.1.2, hk.2⟩)⟩, sqk BK181, sqk BK192, sqk BK197, sqk BK203, sqh HB⟩
    case rest =>
      as_aux_lemma =>
      clear HC11
      try clear c3
      try clear c3b0
      try clear hcz13_0
      try clear hcz13_1
      try clear hcz15_0
      try clear hcz15_1
      try clear hcz21_0
      try clear hcz21_1
      try clear hcz23_0
      try clear hcz23_1
      try clear hcz28_0
      try clear hcz28_1
      try clear hcz35_0
      try clear hcz35_1
      try clear hcz5_0
      try clear hcz5_1
      try clear hfz13_0
      try clear hfz13_1
      try clear hfz15_0
      try clear hfz15_1
      try clear hfz21_0
      try clear hfz21_1
      try clear hfz23_0
      try clear hfz23_1
      try clear hfz28_0
      try clear hfz28_1
      try clear hfz35_0
      try clear hfz35_1
      try clear hfz5_0
      try clear hfz5_1
      obtain ⟨kq, x40_10, rfl, HA, HJ10, HO_193001, HO_198001, HO_204001, BK181, BK192, BK197, BK203, HB⟩ := hcut
      cases kq with
      | zero => exact absurd HA.out (by simp [laws_FnExactGapsClose.j0])
      | succ kj10 =>
        have H := HA.out
        clear HA
        simp only [laws_FnExactGapsClose.j0] at H
        by_cases c55 : x40_10 = true
        · subst c55
          have H1 : (some false) = some r := by rw [if_pos rfl] at H; exact H
          clear H
          have H := H1
          clear H1
          obtain rfl := Option.some.inj H
          go_wp2
          go_ret
          exact sqe HB
        · replace c55 := Bool.eq_false_iff.mpr c55
          subst c55
          have H1 : ((laws_toGaps.f kj10 a0_0 l0_1).bind fun bt205 => ((laws_eqGaps.f kj10 t193 t194 bt205.1 bt205.2).bind fun t209 => (if t209 = true then ((laws_markGaps.f kj10 t193 t194 1).bind fun bt210 => (if bt210.1 < 0 then (laws_FnExactGapsClose.j1 kj10 t191 true a0_0 l0_1 t187 t188 t198 t199) else ((laws_eqGaps.f kj10 t198 t199 t187 t188).bind fun t212 => (if t212 = true then (laws_FnExactGapsClose.j1 kj10 t191 (t202 != t191) a0_0 l0_1 t187 t188 t198 t199) else (laws_FnExactGapsClose.j1 kj10 t191 true a0_0 l0_1 t187 t188 t198 t199))))) else (some false)))) = some r := by rw [if_neg (show ¬ (false = true) by decide)] at H; exact H
          clear H
          have H := H1
          clear H1
          replace H := Option.bind_eq_some_iff.mp H
          obtain ⟨⟨t205, t206⟩, A560, H⟩ := H
          replace H : ((laws_eqGaps.f kj10 t193 t194 t205 t206).bind fun t209 => (if t209 = true then ((laws_markGaps.f kj10 t193 t194 1).bind fun bt210 => (if bt210.1 < 0 then (laws_FnExactGapsClose.j1 kj10 t191 true a0_0 l0_1 t187 t188 t198 t199) else ((laws_eqGaps.f kj10 t198 t199 t187 t188).bind fun t212 => (if t212 = true then (laws_FnExactGapsClose.j1 kj10 t191 (t202 != t191) a0_0 l0_1 t187 t188 t198 t199) else (laws_FnExactGapsClose.j1 kj10 t191 true a0_0 l0_1 t187 t188 t198 t199))))) else (some false))) = some r := H
          have A56 := Aside0.mk A560
          clear A560
          replace H := Option.bind_eq_some_iff.mp H
          obtain ⟨t209, A570, H⟩ := H
          replace H : (if t209 = true then ((laws_markGaps.f kj10 t193 t194 1).bind fun bt210 => (if bt210.1 < 0 then (laws_FnExactGapsClose.j1 kj10 t191 true a0_0 l0_1 t187 t188 t198 t199) else ((laws_eqGaps.f kj10 t198 t199 t187 t188).bind fun t212 => (if t212 = true then (laws_FnExactGapsClose.j1 kj10 t191 (t202 != t191) a0_0 l0_1 t187 t188 t198 t199) else (laws_FnExactGapsClose.j1 kj10 t191 true a0_0 l0_1 t187 t188 t198 t199))))) else (some false)) = some r := H
          have A57 := Aside0.mk A570
          clear A570
          by_cases c58 : t209 = true
          · subst c58
            have H1 : ((laws_markGaps.f kj10 t193 t194 1).bind fun bt210 => (if bt210.1 < 0 then (laws_FnExactGapsClose.j1 kj10 t191 true a0_0 l0_1 t187 t188 t198 t199) else ((laws_eqGaps.f kj10 t198 t199 t187 t188).bind fun t212 => (if t212 = true then (laws_FnExactGapsClose.j1 kj10 t191 (t202 != t191) a0_0 l0_1 t187 t188 t198 t199) else (laws_FnExactGapsClose.j1 kj10 t191 true a0_0 l0_1 t187 t188 t198 t199))))) = some r := by rw [if_pos rfl] at H; exact H
            clear H
            have H := H1
            clear H1
            replace H := Option.bind_eq_some_iff.mp H
            obtain ⟨⟨t210, t211⟩, A590, H⟩ := H
            replace H : (if t210 < 0 then (laws_FnExactGapsClose.j1 kj10 t191 true a0_0 l0_1 t187 t188 t198 t199) else ((laws_eqGaps.f kj10 t198 t199 t187 t188).bind fun t212 => (if t212 = true then (laws_FnExactGapsClose.j1 kj10 t191 (t202 != t191) a0_0 l0_1 t187 t188 t198 t199) else (laws_FnExactGapsClose.j1 kj10 t191 true a0_0 l0_1 t187 t188 t198 t199)))) = some r := H
            have A59 := Aside0.mk A590
            clear A590
            have HC60 := Aside0.mk H
            clear H
            try go_wp2
            replace HO_193001 := Aside0.mk (Kd.R_drew HO_193001.out)
            replace HO_198001 := Aside0.mk (Kd.R_drew HO_198001.out)
            replace HO_204001 := Aside0.mk (Kd.R_drew HO_204001.out)
            replace BK181 := Aside0.mk (blk_drew BK181.out)
            replace BK192 := Aside0.mk (blk_drew BK192.out)
            replace BK197 := Aside0.mk (blk_drew BK197.out)
            replace BK203 := Aside0.mk (blk_drew BK203.out)
            replace HB := Aside0.mk (below_drew1 HB.out)
            refine start_ (n := 5) (S := fun w' => w'.cell? ⟨gb197, 0, none⟩ = some (.int .i64 t193) ∧ w'.cell? ⟨gb197, 1, none⟩ = some (.slice Ao29 t194.length co29) ∧ w'.cell? ⟨gb181, 0, none⟩ = some (.int .i64 a0_0) ∧ w'.cell? ⟨gb181, 1, none⟩ = some (.slice A0_1 l0_1.length c0_1)) (ds := []) #[false, false, false, false, false] (by kernel_rfl) rfl rfl ⟨(blk_cell BK197.out 0).trans rfl, (blk_cell BK197.out 1).trans rfl, (blk_cell BK181.out 0).trans rfl, (blk_cell BK181.out 1).trans rfl⟩ (fun hHeld => ?_)
            generalize wc.drew = w61 at HO_193001 HO_198001 HO_204001 BK181 BK192 BK197 BK203 HB hHeld ⊢
            refine take_ (i := 0) (N := some 41) (v := ?_) (a' := ?_) #[true, false, false, false, false] rfl rfl (by kernel_rfl) (fun _ _ _ h => h) (Or.inl ⟨by rfl, ?_⟩) hHeld ?_ ?_
            rotate_left
            · rintro w' ⟨s0, s1, s2, s3⟩
              go_simp
              with_reducible rfl
            rotate_left
            · simp only [Act.put, List.setIfInBounds_toArray, List.set_cons_zero, List.set_cons_succ, i64_w, i32_w]
              rfl
            refine take_ (i := 1) (N := some 42) (v := ?_) (a' := ?_) #[true, true, false, false, false] rfl rfl (by kernel_rfl) (fun _ _ _ h => h) (Or.inl ⟨by rfl, ?_⟩) hHeld ?_ ?_
            rotate_left
            · rintro w' ⟨s0, s1, s2, s3⟩
              go_simp
              with_reducible rfl
            rotate_left
            · simp only [Act.put, List.setIfInBounds_toArray, List.set_cons_zero, List.set_cons_succ, i64_w, i32_w]
              rfl
            refine one_ (i := 2) (N := some 43) #[true, true, true, false, false] rfl rfl (by kernel_rfl) (by decide) (fun K hK => ?_)
            refine sqG Try.func16 #[.agg #[.int .i64 a0_0, .slice A0_1 l0_1.length c0_1]] ?_
            with_reducible refine (laws_toGaps.calls kj10 a0_0 _ _ l0_1 t205 t206 _ ?side1 ?side2 A56.out).mono ?_
            (case side1 => repeat (first | exact (Kd.C_below HR0_1.out HB.out) | (with_reducible refine Kd.C_alloc ?_ _) | (with_reducible refine Kd.C_drewN ?_ _) | (with_reducible refine Kd.C_drew ?_)))
            (case side2 => exact HC0_1.out)
            rintro e w62 ⟨v207, rfl, ho0, hb⟩
            refine ⟨_, rfl, ?_⟩
            have n0_ := Aside0.mk (Kd.R_elder' (by (with_reducible repeat (first | apply Kd.R_alloc | apply Kd.R_drewN | apply Kd.R_drew)); exact HO_193001.out) (Kd.R_base ho0) hb)
            have n1_ := Aside0.mk (Kd.R_elder' (by (with_reducible repeat (first | apply Kd.R_alloc | apply Kd.R_drewN | apply Kd.R_drew)); exact HO_198001.out) (Kd.R_base ho0) hb)
            have n2_ := Aside0.mk (Kd.R_elder' (by (with_reducible repeat (first | apply Kd.R_alloc | apply Kd.R_drewN | apply Kd.R_drew)); exact HO_204001.out) (Kd.R_base ho0) hb)
            have n3_ := Aside0.mk (Kd.R_lower (Kd.R_new' (Kd.R_new' (Kd.R_new' ho0 (Kd.R_lt (by (with_reducible repeat (first | apply Kd.R_alloc | apply Kd.R_drewN | apply Kd.R_drew)); exact HO_193001.out))) (Kd.R_lt (by (with_reducible repeat (first | apply Kd.R_alloc | apply Kd.R_drewN | apply Kd.R_drew)); exact HO_198001.out))) (Kd.R_lt (by (with_reducible repeat (first | apply Kd.R_alloc | apply Kd.R_drewN | apply Kd.R_drew)); exact HO_204001.out))) (below_size (by repeat (first | (with_reducible first | exact HB.out | apply below_alloc | apply pw_below_drewN | apply below_drew1 | refine below_set ?_ GE181.out | refine below_set ?_ GE192.out | refine below_set ?_ GE197.out | refine below_set ?_ GE203.out) | exact HB.out))))
            have n4_ := sqb BK181 hb
            have n5_ := sqb BK192 hb
            have n6_ := sqb BK197 hb
            have n7_ := sqb BK203 hb
            have n8_ := sqs HB hb
            clear HO_193001
            clear HO_198001
            clear HO_204001
            clear BK181
            clear BK192
            clear BK197
            clear BK203
            clear HB
            have HO_193001 := n0_
            have HO_198001 := n1_
            have HO_204001 := n2_
            have HO208 := n3_
            have BK181 := n4_
            have BK192 := n5_
            have BK197 := n6_
            have BK203 := n7_
            have HB := n8_
            clear n0_ n1_ n2_ n3_ n4_ n5_ n6_ n7_ n8_
            (try clear hb)
            (try clear hb2)
            (try clear hk)
            (try clear hi)
            (try clear ho0)
            obtain ⟨Ao63, co63, eo63⟩ := Kd.R_slice HO208.out
            (first | subst eo63 | (injection eo63 with f1_ f2_ f3_; have f4_ := f1_.symm; have f5_ := f3_.symm; clear f1_ f2_ f3_; subst f4_; subst f5_))
            refine hK.out _ _ sqz (fun hHeld => ?_)
            clear hK K
            refine sqnm ?_
            refine one_ (i := 3) (N := some 44) #[true, true, true, true, false] rfl rfl (by kernel_rfl) (by decide) (fun K hK => ?_)
            refine sqG Try.func19 #[.agg #[.int .i64 t193, .slice Ao29 t194.length co29], .agg #[.int .i64 t205, .slice Ao63 t206.length co63]] ?_
            with_reducible refine (laws_eqGaps.calls kj10 t193 _ _ t194 t205 _ _ t206 true _ ?side1 ?side2 ?side3 ?side4 A57.out).mono ?_
            (case side1 => repeat (first | exact (Kd.R_reads' HO_198001.out).2.2 | (with_reducible refine Kd.C_alloc ?_ _) | (with_reducible refine Kd.C_drewN ?_ _) | (with_reducible refine Kd.C_drew ?_)))
            (case side2 => exact (Kd.R_reads' HO_198001.out).2.1)
            (case side3 => repeat (first | exact (Kd.R_reads' HO208.out).2.2 | (with_reducible refine Kd.C_alloc ?_ _) | (with_reducible refine Kd.C_drewN ?_ _) | (with_reducible refine Kd.C_drew ?_)))
            (case side4 => exact (Kd.R_reads' HO208.out).2.1)
            rintro e w64 ⟨rfl, hb⟩
            refine ⟨_, rfl, ?_⟩
            have n0_ := Aside0.mk (Kd.R_below (by (with_reducible repeat (first | apply Kd.R_alloc | apply Kd.R_drewN | apply Kd.R_drew)); exact HO_193001.out) hb)
            have n1_ := Aside0.mk (Kd.R_below (by (with_reducible repeat (first | apply Kd.R_alloc | apply Kd.R_drewN | apply Kd.R_drew)); exact HO_198001.out) hb)
            have n2_ := Aside0.mk (Kd.R_below (by (with_reducible repeat (first | apply Kd.R_alloc | apply Kd.R_drewN | apply Kd.R_drew)); exact HO_204001.out) hb)
            have n3_ := Aside0.mk (Kd.R_below (by (with_reducible repeat (first | apply Kd.R_alloc | apply Kd.R_drewN | apply Kd.R_drew)); exact HO208.out) hb)
            have n4_ := sqb BK181 hb
            have n5_ := sqb BK192 hb
            have n6_ := sqb BK197 hb
            have n7_ := sqb BK203 hb
            have n8_ := sqs HB hb
            clear HO_193001
            clear HO_198001
            clear HO_204001
            clear HO208
            clear BK181
            clear BK192
            clear BK197
            clear BK203
            clear HB
            have HO_193001 := n0_
            have HO_198001 := n1_
            have HO_204001 := n2_
            have HO208 := n3_
            have BK181 := n4_
            have BK192 := n5_
            have BK197 := n6_
            have BK203 := n7_
            have HB := n8_
            clear n0_ n1_ n2_ n3_ n4_ n5_ n6_ n7_ n8_
            (try clear hb)
            refine hK.out _ _ sqz (fun hHeld => ?_)
            clear hK K
            refine sqnm ?_
            refine pure_ (i := 4) (N := some 45) (v := ?_) (a' := ?_) #[true, true, true, true, true] rfl rfl (by kernel_rfl) (fun _ _ _ h => h) (Or.inl ⟨by rfl, ?_⟩) ?_ ?_
            rotate_left
            · intro w'
              go_simp
              with_reducible rfl
            rotate_left
            · simp only [Act.put, List.setIfInBounds_toArray, List.set_cons_zero, List.set_cons_succ, i64_w, i32_w]
              rfl
            refine done_ (by kernel_rfl) ?_
            have hnb65 := NB197_181.out
            have hnc65 := NB181_197.out
            have hnb66 := NB197_192.out
            have hnc66 := NB192_197.out
            have hnb67 := NB197_203.out
            have hnc67 := NB203_197.out
            obtain ⟨hcz68_0, hcz68_1, hfz68_0, hfz68_1⟩ := sqc2 BK197
            go_upto_region 14 with (first | ((with_reducible refine gate_callee (f := 22) rfl ?_); refine sqL (some 48) Try.func22 #[.agg #[.int .i64 t193, .slice Ao29 t194.length co29], .int .i64 1] ?_; (with_reducible refine (laws_markGaps.calls kj10 t193 (fun k_ => some k_ = (.slice Ao29 t194.length co29 : Value).ownBlock) (.slice Ao29 t194.length co29) t194 1 t210 t211 w _ ?side1 ?side2 A59.out).mono ?_); (case side1 => repeat (first | (with_reducible first | exact HB.out | apply below_alloc | apply pw_below_drewN | apply below_drew1 | refine below_set ?_ GE181.out | refine below_set ?_ GE192.out | refine below_set ?_ GE197.out | refine below_set ?_ GE203.out) | exact HB.out)); (case side2 => exact Kd.R_tight rfl HO_198001.out); rintro e w69 ⟨rfl, hy0, hb, hkp⟩; refine ⟨_, rfl, ?_⟩; have n0_ := Aside0.mk (Kd.R_mono (ok' := fun k_ => some k_ ≠ (.slice Ao29 t194.length co29 : Value).ownBlock ∧ some k_ ≠ (.slice Ao36 t199.length co36 : Value).ownBlock ∧ some k_ ≠ (.slice Ao63 t206.length co63 : Value).ownBlock) (Kd.R_keptB (HO_193001.out) hkp (fun k_ hk_ hs_ => (hk_.1.1) hs_)) (fun k_ hk_ => ⟨hk_.1.1.1, hk_.1.1.2, hk_.1.2⟩)); have n1_ := Aside0.mk (Kd.R_reok rfl hy0 (fun k_ e_ => HO_198001.out.1 k_ e_)); have n2_ := Aside0.mk (Kd.R_mono (ok' := fun k_ => some k_ ≠ (.slice Ao22 t188.length co22 : Value).ownBlock ∧ some k_ ≠ (.slice Ao29 t194.length co29 : Value).ownBlock ∧ some k_ ≠ (.slice Ao63 t206.length co63 : Value).ownBlock) (Kd.R_keptB (HO_204001.out) hkp (fun k_ hk_ hs_ => (hk_.1.2) hs_)) (fun k_ hk_ => ⟨hk_.1.1.1, hk_.1.1.2, hk_.1.2⟩)); have n3_ := Aside0.mk (blk_kept (by refine sqt ?_; exact BK181.out) hkp (fun hs_ => (fun e_ => (Kd.R_ne HO_198001.out BK181.out (by decide)) e_) hs_)); have n4_ := Aside0.mk (blk_kept (by refine sqt ?_; exact BK192.out) hkp (fun hs_ => (fun e_ => (Kd.R_ne HO_198001.out BK192.out (by decide)) e_) hs_)); have n5_ := Aside0.mk (blk_kept (by refine sqt ?_; exact BK197.out) hkp (fun hs_ => (fun e_ => (Kd.R_ne HO_198001.out BK197.out (by decide)) e_) hs_)); have n6_ := Aside0.mk (blk_kept (by refine sqt ?_; exact BK203.out) hkp (fun hs_ => (fun e_ => (Kd.R_ne HO_198001.out BK203.out (by decide)) e_) hs_)); have n7_ := Aside0.mk (Kd.R_mono (ok' := fun k_ => some k_ ≠ (.slice Ao22 t188.length co22 : Value).ownBlock ∧ some k_ ≠ (.slice Ao29 t194.length co29 : Value).ownBlock ∧ some k_ ≠ (.slice Ao36 t199.length co36 : Value).ownBlock) (Kd.R_keptB (HO208.out) hkp (fun k_ hk_ hs_ => (hk_.1.2) hs_)) (fun k_ hk_ => ⟨hk_.1.1.1.2, hk_.1.1.2, hk_.1.2⟩)); have n8_ := Aside0.mk (hb); clear HO_193001; clear HO_198001; clear HO_204001; clear BK181; clear BK192; clear BK197; clear BK203; clear HO208; clear HB; have HO_193001 := n0_; have HO_198001 := n1_; have HO_204001 := n2_; have BK181 := n3_; have BK192 := n4_; have BK197 := n5_; have BK203 := n6_; have HO208 := n7_; have HB := n8_; clear n0_ n1_ n2_ n3_ n4_ n5_ n6_ n7_ n8_; (try clear hb); (try clear hkp); (try clear hy0)))
            (try simp only [Act.put, List.setIfInBounds_toArray, List.set_cons_zero, List.set_cons_succ])
            go_cut [61] (fun v61 wc => ∃ (kq : Nat) (x61_59 : Bool), v61 = .bool x61_59 ∧ Aside0 (laws_FnExactGapsClose.j1 kq t191 x61_59 a0_0 l0_1 t187 t188 t198 t199 = some r) ∧ Aside0 (kq ≤ kj10) ∧ Aside0 (Kd.R (Kd.int .i64) 3 wc w.heap.size (fun k_ => some k_ ≠ ((.slice Ao29 t194.length co29) : Value).ownBlock ∧ some k_ ≠ ((.slice Ao36 t199.length co36) : Value).ownBlock) (.slice Ao22 t188.length co22) t188) ∧ Aside0 (Kd.R (Kd.int .i64) 3 wc w.heap.size (fun k_ => some k_ ≠ ((.slice Ao22 t188.length co22) : Value).ownBlock ∧ some k_ ≠ ((.slice Ao36 t199.length co36) : Value).ownBlock) (.slice Ao29 t194.length co29) t211) ∧ Aside0 (Kd.R (Kd.int .i64) 3 wc w.heap.size (fun k_ => some k_ ≠ ((.slice Ao22 t188.length co22) : Value).ownBlock ∧ some k_ ≠ ((.slice Ao29 t194.length co29) : Value).ownBlock) (.slice Ao36 t199.length co36) t199) ∧ Aside0 (wc.heap[gb181]? = some (.cells #[.int .i64 a0_0, (.slice A0_1 l0_1.length c0_1)] 24 (0, 0))) ∧ Aside0 (wc.heap[gb192]? = some (.cells #[.int .i64 t187, (.slice Ao22 t188.length co22)] 29 (0, 0))) ∧ Aside0 (wc.heap[gb197]? = some (.cells #[.int .i64 t193, (.slice Ao29 t194.length co29)] 29 (0, 0))) ∧ Aside0 (wc.heap[gb203]? = some (.cells #[.int .i64 t198, (.slice Ao36 t199.length co36)] 29 (0, 0))) ∧ Aside0 (Below w.heap.size w wc))
            case first =>
              as_aux_lemma =>
              have H := HC60.out
              clear HC60
              by_cases c70 : t210 < 0
              · rw [if_pos c70] at H
                have c70b0 : decide (t210 < 0) = true := decide_eq_true c70
                clear c70
                (first | rw [c70b0] | (simp only [i64_w, i32_w]; rw [c70b0]) | skip)
                have H' := Aside0.mk H
                clear H
                go_wp2
                go_meet
                case rel => exact ⟨_, (true), (by first | rfl | (simp; done) | (simp [*]; done)), H', ⟨by have := HJ10.out; first | omega | exact Nat.le_refl _⟩, ⟨by (with_reducible repeat (first | apply Kd.R_alloc | apply Kd.R_drewN | apply Kd.R_drew)); exact Kd.R_mono HO_193001.out (fun _ hk => ⟨hk.1, hk.2.1⟩)⟩, ⟨by (with_reducible repeat (first | apply Kd.R_alloc | apply Kd.R_drewN | apply Kd.R_drew)); exact Kd.R_mono HO_198001.out (fun _ hk => ⟨hk.1.1, hk.1.2⟩)⟩, ⟨by (with_reducible repeat (first | apply Kd.R_alloc | apply Kd.R_drewN | apply Kd.R_drew)); exact Kd.R_mono HO_204001.out (fun _ hk => ⟨hk.1, hk.2.1⟩)⟩, sqk BK181, sqk BK192, sqk BK197, sqk BK203, sqh HB⟩
              · rw [if_neg c70] at H
                have c70b0 : decide (t210 < 0) = false := decide_eq_false c70
                clear c70
                (first | rw [c70b0] | (simp only [i64_w, i32_w]; rw [c70b0]) | skip)
                replace H := Option.bind_eq_some_iff.mp H
                obtain ⟨t212, A710, H⟩ := H
                replace H : (if t212 = true then (laws_FnExactGapsClose.j1 kj10 t191 (t202 != t191) a0_0 l0_1 t187 t188 t198 t199) else (laws_FnExactGapsClose.j1 kj10 t191 true a0_0 l0_1 t187 t188 t198 t199)) = some r := H
                have A71 := Aside0.mk A710
                clear A710
                by_cases c72 : t212 = true
                · subst c72
                  have H1 : (laws_FnExactGapsClose.j1 kj10 t191 (t202 != t191) a0_0 l0_1 t187 t188 t198 t199) = some r := by rw [if_pos rfl] at H; exact H
                  clear H
                  have H := H1
                  clear H1
                  have H' := Aside0.mk H
                  clear H
                  have hnb73 := NB203_181.out
                  have hnc73 := NB181_203.out
                  have hnb74 := NB203_192.out
                  have hnc74 := NB192_203.out
                  have hnb75 := NB203_197.out
                  have hnc75 := NB197_203.out
                  obtain ⟨hcz76_0, hcz76_1, hfz76_0, hfz76_1⟩ := sqc2 BK203
                  have hnb77 := NB192_181.out
                  have hnc77 := NB181_192.out
                  have hnb78 := NB192_197.out
                  have hnc78 := NB197_192.out
                  obtain ⟨hcz79_0, hcz79_1, hfz79_0, hfz79_1⟩ := sqc2 BK192
                  go_wp2_with (first | (go_at_call 19; (with_reducible refine (laws_eqGaps.calls kj10 t198 _ _ t199 t187 _ _ t188 true _ ?side1 ?side2 ?side3 ?side4 A71.out).mono ?_); (case side1 => repeat (first | exact (Kd.R_reads' HO_204001.out).2.2 | (with_reducible refine Kd.C_alloc ?_ _) | (with_reducible refine Kd.C_drewN ?_ _) | (with_reducible refine Kd.C_drew ?_))); (case side2 => exact (Kd.R_reads' HO_204001.out).2.1); (case side3 => repeat (first | exact (Kd.R_reads' HO_193001.out).2.2 | (with_reducible refine Kd.C_alloc ?_ _) | (with_reducible refine Kd.C_drewN ?_ _) | (with_reducible refine Kd.C_drew ?_))); (case side4 => exact (Kd.R_reads' HO_193001.out).2.1); rintro e w80 ⟨rfl, hb⟩; have n0_ := Aside0.mk (Kd.R_below (by (with_reducible repeat (first | apply Kd.R_alloc | apply Kd.R_drewN | apply Kd.R_drew)); exact HO_193001.out) hb); have n1_ := Aside0.mk (Kd.R_below (by (with_reducible repeat (first | apply Kd.R_alloc | apply Kd.R_drewN | apply Kd.R_drew)); exact HO_198001.out) hb); have n2_ := Aside0.mk (Kd.R_below (by (with_reducible repeat (first | apply Kd.R_alloc | apply Kd.R_drewN | apply Kd.R_drew)); exact HO_204001.out) hb); have n3_ := Aside0.mk (Kd.R_below (by (with_reducible repeat (first | apply Kd.R_alloc | apply Kd.R_drewN | apply Kd.R_drew)); exact HO208.out) hb); have n4_ := sqb BK181 hb; have n5_ := sqb BK192 hb; have n6_ := sqb BK197 hb; have n7_ := sqb BK203 hb; have n8_ := sqs HB hb; clear HO_193001; clear HO_198001; clear HO_204001; clear HO208; clear BK181; clear BK192; clear BK197; clear BK203; clear HB; have HO_193001 := n0_; have HO_198001 := n1_; have HO_204001 := n2_; have HO208 := n3_; have BK181 := n4_; have BK192 := n5_; have BK197 := n6_; have BK203 := n7_; have HB := n8_; clear n0_ n1_ n2_ n3_ n4_ n5_ n6_ n7_ n8_; (try clear hb)))
                  go_meet
                  case rel => exact ⟨_, ((t202 != t191)), (by first | rfl | (simp; done) | (simp [*]; done)), H', ⟨by have := HJ10.out; first | omega | exact Nat.le_refl _⟩, ⟨by (with_reducible repeat (first | apply Kd.R_alloc | apply Kd.R_drewN | apply Kd.R_drew)); exact Kd.R_mono HO_193001.out (fun _ hk => ⟨hk.1, hk.2.1⟩)⟩, ⟨by (with_reducible repeat (first | apply Kd.R_alloc | apply Kd.R_drewN | apply Kd.R_drew)); exact Kd.R_mono HO_198001.out (fun _ hk => ⟨hk.1.1, hk.1.2⟩)⟩, ⟨by (with_reducible repeat (first | apply Kd.R_alloc | apply Kd.R_drewN | apply Kd.R_drew)); exact Kd.R_mono HO_204001.out (fun _ hk => ⟨hk.1, hk.2.1⟩)⟩, sqk BK181, sqk BK192, sqk BK197, sqk BK203, sqh HB⟩
                · replace c72 := Bool.eq_false_iff.mpr c72
                  subst c72
                  have H1 : (laws_FnExactGapsClose.j1 kj10 t191 true a0_0 l0_1 t187 t188 t198 t199) = some r := by rw [if_neg (show ¬ (false = true) by decide)] at H; exact H
                  clear H
                  have H := H1
                  clear H1
                  have H' := Aside0.mk H
                  clear H
                  have hnb81 := NB203_181.out
                  have hnc81 := NB181_203.out
                  have hnb82 := NB203_192.out
                  have hnc82 := NB192_203.out
                  have hnb83 := NB203_197.out
                  have hnc83 := NB197_203.out
                  obtain ⟨hcz84_0, hcz84_1, hfz84_0, hfz84_1⟩ := sqc2 BK203
                  have hnb85 := NB192_181.out
                  have hnc85 := NB181_192.out
                  have hnb86 := NB192_197.out
                  have hnc86 := NB197_192.out
                  obtain ⟨hcz87_0, hcz87_1, hfz87_0, hfz87_1⟩ := sqc2 BK192
                  go_wp2_with (first | (go_at_call 19; (with_reducible refine (laws_eqGaps.calls kj10 t198 _ _ t199 t187 _ _ t188 false _ ?side1 ?side2 ?side3 ?side4 A71.out).mono ?_); (case side1 => repeat (first | exact (Kd.R_reads' HO_204001.out).2.2 | (with_reducible refine Kd.C_alloc ?_ _) | (with_reducible refine Kd.C_drewN ?_ _) | (with_reducible refine Kd.C_drew ?_))); (case side2 => exact (Kd.R_reads' HO_204001.out).2.1); (case side3 => repeat (first | exact (Kd.R_reads' HO_193001.out).2.2 | (with_reducible refine Kd.C_alloc ?_ _) | (with_reducible refine Kd.C_drewN ?_ _) | (with_reducible refine Kd.C_drew ?_))); (case side4 => exact (Kd.R_reads' HO_193001.out).2.1); rintro e w88 ⟨rfl, hb⟩; have n0_ := Aside0.mk (Kd.R_below (by (with_reducible repeat (first | apply Kd.R_alloc | apply Kd.R_drewN | apply Kd.R_drew)); exact HO_193001.out) hb); have n1_ := Aside0.mk (Kd.R_below (by (with_reducible repeat (first | apply Kd.R_alloc | apply Kd.R_drewN | apply Kd.R_drew)); exact HO_198001.out) hb); have n2_ := Aside0.mk (Kd.R_below (by (with_reducible repeat (first | apply Kd.R_alloc | apply Kd.R_drewN | apply Kd.R_drew)); exact HO_204001.out) hb); have n3_ := Aside0.mk (Kd.R_below (by (with_reducible repeat (first | apply Kd.R_alloc | apply Kd.R_drewN | apply Kd.R_drew)); exact HO208.out) hb); have n4_ := sqb BK181 hb; have n5_ := sqb BK192 hb; have n6_ := sqb BK197 hb; have n7_ := sqb BK203 hb; have n8_ := sqs HB hb; clear HO_193001; clear HO_198001; clear HO_204001; clear HO208; clear BK181; clear BK192; clear BK197; clear BK203; clear HB; have HO_193001 := n0_; have HO_198001 := n1_; have HO_204001 := n2_; have HO208 := n3_; have BK181 := n4_; have BK192 := n5_; have BK197 := n6_; have BK203 := n7_; have HB := n8_; clear n0_ n1_ n2_ n3_ n4_ n5_ n6_ n7_ n8_; (try clear hb)))
                  go_meet
                  case rel => exact ⟨_, (true), (by first | rfl | (simp; done) | (simp [*]; done)), H', ⟨by have := HJ10.out; first | omega | exact Nat.le_refl _⟩, ⟨by (with_reducible repeat (first | apply Kd.R_alloc | apply Kd.R_drewN | apply Kd.R_drew)); exact Kd.R_mono HO_193001.out (fun _ hk => ⟨hk.1, hk.2.1⟩)⟩, ⟨by (with_reducible repeat (first | apply Kd.R_alloc | apply Kd.R_drewN | apply Kd.R_drew)); exact Kd.R_mono HO_198001.out (fun _ hk => ⟨hk.1.1, hk.1.2⟩)⟩, ⟨by (with_reducible repeat (first | apply Kd.R_alloc | apply Kd.R_drewN | apply Kd.R_drew)); exact Kd.R_mono HO_204001.out (fun _ hk => ⟨hk.1, hk.2.1⟩)⟩, sqk BK181, sqk BK192, sqk BK197, sqk BK203, sqh HB⟩
            case rest =>
              as_aux_lemma =>
              clear HC60
              try clear c3
              try clear c3b0
              try clear c38
              try clear c55
              try clear c58
              try clear hcz13_0
              try clear hcz13_1
              try clear hcz15_0
              try clear hcz15_1
              try clear hcz21_0
              try clear hcz21_1
              try clear hcz23_0
              try clear hcz23_1
              try clear hcz28_0
              try clear hcz28_1
              try clear hcz35_0
              try clear hcz35_1
              try clear hcz42_0
              try clear hcz42_1
              try clear hcz45_0
              try clear hcz45_1
              try clear hcz50_0
              try clear hcz50_1
              try clear hcz53_0
              try clear hcz53_1
              try clear hcz5_0
              try clear hcz5_1
              try clear hcz68_0
              try clear hcz68_1
              try clear hfz13_0
              try clear hfz13_1
              try clear hfz15_0
              try clear hfz15_1
              try clear hfz21_0
              try clear hfz21_1
              try clear hfz23_0
              try clear hfz23_1
              try clear hfz28_0
              try clear hfz28_1
              try clear hfz35_0
              try clear hfz35_1
              try clear hfz42_0
              try clear hfz42_1
              try clear hfz45_0
              try clear hfz45_1
              try clear hfz50_0
              try clear hfz50_1
              try clear hfz53_0
              try clear hfz53_1
              try clear hfz5_0
              try clear hfz5_1
              try clear hfz68_0
              try clear hfz68_1
              obtain ⟨kq, x61_59, rfl, HA, HJ59, HO_193001, HO_198001, HO_204001, BK181, BK192, BK197, BK203, HB⟩ := hcut
              have hl198001_59 := (Kd.R_reads' HO_198001.out).1
              rw [hl198001_59] at HO_198001
              (try simp only [hl198001_59])
              (try simp only [hl198001_59] at BK181)
              (try simp only [hl198001_59] at BK192)
              (try simp only [hl198001_59] at BK197)
              (try simp only [hl198001_59] at BK203)
              (try simp only [hl198001_59] at HO_193001)
              (try simp only [hl198001_59] at HO_204001)
              cases kq with
              | zero => exact absurd HA.out (by simp [laws_FnExactGapsClose.j1])
              | succ kj59 =>
                have H := HA.out
                clear HA
                simp only [laws_FnExactGapsClose.j1] at H
                by_cases c89 : x61_59 = true
                · subst c89
                  have H1 : (some false) = some r := by rw [if_pos rfl] at H; exact H
                  clear H
                  have H := H1
                  clear H1
                  obtain rfl := Option.some.inj H
                  go_wp2
                  go_ret
                  exact sqe HB
                · replace c89 := Bool.eq_false_iff.mpr c89
                  subst c89
                  have H1 : ((laws_markGaps.f kj59 t198 t199 1).bind fun bt213 => ((laws_heldGaps.f kj59 t198 bt213.2 1).bind fun t215 => (if t215 < 0 then (some false) else (if t215 = bt213.1 then ((laws_toGaps.f kj59 a0_0 l0_1).bind fun bt216 => ((impl_GapsClose.f kj59 bt216.1 bt216.2).bind fun bt220 => ((laws_eqGaps.f kj59 bt220.1 bt220.2.1 t187 t188).bind fun t226 => (if t226 = true then (laws_FnExactGapsClose.j2 kj59 bt213.1 (bt220.2.2 != t191) t198 bt213.2) else (laws_FnExactGapsClose.j2 kj59 bt213.1 true t198 bt213.2))))) else (some false))))) = some r := by rw [if_neg (show ¬ (false = true) by decide)] at H; exact H
                  clear H
                  have H := H1
                  clear H1
                  replace H := Option.bind_eq_some_iff.mp H
                  obtain ⟨⟨t213, t214⟩, A900, H⟩ := H
                  replace H : ((laws_heldGaps.f kj59 t198 t214 1).bind fun t215 => (if t215 < 0 then (some false) else (if t215 = t213 then ((laws_toGaps.f kj59 a0_0 l0_1).bind fun bt216 => ((impl_GapsClose.f kj59 bt216.1 bt216.2).bind fun bt220 => ((laws_eqGaps.f kj59 bt220.1 bt220.2.1 t187 t188).bind fun t226 => (if t226 = true then (laws_FnExactGapsClose.j2 kj59 t213 (bt220.2.2 != t191) t198 t214) else (laws_FnExactGapsClose.j2 kj59 t213 true t198 t214))))) else (some false)))) = some r := H
                  have A90 := Aside0.mk A900
                  clear A900
                  replace H := Option.bind_eq_some_iff.mp H
                  obtain ⟨t215, A910, H⟩ := H
                  replace H : (if t215 < 0 then (some false) else (if t215 = t213 then ((laws_toGaps.f kj59 a0_0 l0_1).bind fun bt216 => ((impl_GapsClose.f kj59 bt216.1 bt216.2).bind fun bt220 => ((laws_eqGaps.f kj59 bt220.1 bt220.2.1 t187 t188).bind fun t226 => (if t226 = true then (laws_FnExactGapsClose.j2 kj59 t213 (bt220.2.2 != t191) t198 t214) else (laws_FnExactGapsClose.j2 kj59 t213 true t198 t214))))) else (some false))) = some r := H
                  have A91 := Aside0.mk A910
                  clear A910
                  by_cases c92 : t215 < 0
                  · rw [if_pos c92] at H
                    have c92b0 : decide (t215 < 0) = true := decide_eq_true c92
                    clear c92
                    obtain rfl := Option.some.inj H
                    have hnb93 := NB203_181.out
                    have hnc93 := NB181_203.out
                    have hnb94 := NB203_192.out
                    have hnc94 := NB192_203.out
                    have hnb95 := NB203_197.out
                    have hnc95 := NB197_203.out
                    obtain ⟨hcz96_0, hcz96_1, hfz96_0, hfz96_1⟩ := sqc2 BK203
                    go_wp2_with (first | ((with_reducible refine gate_callee (f := 22) rfl ?_); refine sqL (some 64) Try.func22 #[.agg #[.int .i64 t198, .slice Ao36 t199.length co36], .int .i64 1] ?_; (with_reducible refine (laws_markGaps.calls kj59 t198 (fun k_ => some k_ = (.slice Ao36 t199.length co36 : Value).ownBlock) (.slice Ao36 t199.length co36) t199 1 t213 t214 w _ ?side1 ?side2 A90.out).mono ?_); (case side1 => repeat (first | (with_reducible first | exact HB.out | apply below_alloc | apply pw_below_drewN | apply below_drew1 | refine below_set ?_ GE181.out | refine below_set ?_ GE192.out | refine below_set ?_ GE197.out | refine below_set ?_ GE203.out) | exact HB.out)); (case side2 => exact Kd.R_tight rfl HO_204001.out); rintro e w97 ⟨rfl, hy0, hb, hkp⟩; refine ⟨_, rfl, ?_⟩; have n0_ := Aside0.mk (Kd.R_mono (ok' := fun k_ => some k_ ≠ (.slice Ao29 t211.length co29 : Value).ownBlock ∧ some k_ ≠ (.slice Ao36 t199.length co36 : Value).ownBlock) (Kd.R_keptB (HO_193001.out) hkp (fun k_ hk_ hs_ => (hk_.2) hs_)) (fun k_ hk_ => ⟨hk_.1.1, hk_.1.2⟩)); have n1_ := Aside0.mk (Kd.R_mono (ok' := fun k_ => some k_ ≠ (.slice Ao22 t188.length co22 : Value).ownBlock ∧ some k_ ≠ (.slice Ao36 t199.length co36 : Value).ownBlock) (Kd.R_keptB (HO_198001.out) hkp (fun k_ hk_ hs_ => (hk_.2) hs_)) (fun k_ hk_ => ⟨hk_.1.1, hk_.1.2⟩)); have n2_ := Aside0.mk (Kd.R_reok rfl hy0 (fun k_ e_ => HO_204001.out.1 k_ e_)); have n3_ := Aside0.mk (blk_kept (by refine sqt ?_; exact BK181.out) hkp (fun hs_ => (fun e_ => (Kd.R_ne HO_204001.out BK181.out (by decide)) e_) hs_)); have n4_ := Aside0.mk (blk_kept (by refine sqt ?_; exact BK192.out) hkp (fun hs_ => (fun e_ => (Kd.R_ne HO_204001.out BK192.out (by decide)) e_) hs_)); have n5_ := Aside0.mk (blk_kept (by refine sqt ?_; exact BK197.out) hkp (fun hs_ => (fun e_ => (Kd.R_ne HO_204001.out BK197.out (by decide)) e_) hs_)); have n6_ := Aside0.mk (blk_kept (by refine sqt ?_; exact BK203.out) hkp (fun hs_ => (fun e_ => (Kd.R_ne HO_204001.out BK203.out (by decide)) e_) hs_)); have n7_ := Aside0.mk (hb); clear HO_193001; clear HO_198001; clear HO_204001; clear BK181; clear BK192; clear BK197; clear BK203; clear HB; have HO_193001 := n0_; have HO_198001 := n1_; have HO_204001 := n2_; have BK181 := n3_; have BK192 := n4_; have BK197 := n5_; have BK203 := n6_; have HB := n7_; clear n0_ n1_ n2_ n3_ n4_ n5_ n6_ n7_; (try clear hb); (try clear hkp); (try clear hy0); obtain ⟨hcz98_0, hcz98_1, hfz98_0, hfz98_1⟩ := sqc2 BK203) | ((with_reducible refine gate_callee (f := 23) rfl ?_); refine goesL_ (some 67) rfl rfl Try.func23 (by kernel_rfl) rfl #[.agg #[.int .i64 t198, .slice Ao36 t214.length co36], .int .i64 1] rfl (by (try simp only [List.map_toArray, List.map_cons, List.map_nil]); first | done | (rw [show t214.length = t199.length from (Kd.R_reads' HO_204001.out).1.symm] <;> rfl) | rfl | (simp only [List.length_drop, List.length_take]; rfl)) ?_; (with_reducible refine (laws_heldGaps.calls kj59 t198 _ _ t214 1 t215 _ ?side1 ?side2 A91.out).mono ?_); (case side1 => repeat (first | exact (Kd.R_reads' HO_204001.out).2.2 | (with_reducible refine Kd.C_alloc ?_ _) | (with_reducible refine Kd.C_drewN ?_ _) | (with_reducible refine Kd.C_drew ?_))); (case side2 => rw [show t214.length = t199.length from (Kd.R_reads' HO_204001.out).1.symm]; exact (Kd.R_reads' HO_204001.out).2.1); rintro e w99 ⟨rfl, hb⟩; refine ⟨_, rfl, ?_⟩; have n0_ := Aside0.mk (Kd.R_below (by (with_reducible repeat (first | apply Kd.R_alloc | apply Kd.R_drewN | apply Kd.R_drew)); exact HO_193001.out) hb); have n1_ := Aside0.mk (Kd.R_below (by (with_reducible repeat (first | apply Kd.R_alloc | apply Kd.R_drewN | apply Kd.R_drew)); exact HO_198001.out) hb); have n2_ := Aside0.mk (Kd.R_below (by (with_reducible repeat (first | apply Kd.R_alloc | apply Kd.R_drewN | apply Kd.R_drew)); exact HO_204001.out) hb); have n3_ := sqb BK181 hb; have n4_ := sqb BK192 hb; have n5_ := sqb BK197 hb; have n6_ := sqb BK203 hb; have n7_ := sqs HB hb; clear HO_193001; clear HO_198001; clear HO_204001; clear BK181; clear BK192; clear BK197; clear BK203; clear HB; have HO_193001 := n0_; have HO_198001 := n1_; have HO_204001 := n2_; have BK181 := n3_; have BK192 := n4_; have BK197 := n5_; have BK203 := n6_; have HB := n7_; clear n0_ n1_ n2_ n3_ n4_ n5_ n6_ n7_; (try clear hb)))
                    go_ret
                    exact sqe HB
                  · rw [if_neg c92] at H
                    have c92b0 : decide (t215 < 0) = false := decide_eq_false c92
                    clear c92
                    by_cases c100 : t215 = t213
                    · rw [if_pos c100] at H
                      have c100b0 : (t215 == t213) = true := beq_iff_eq.mpr c100
                      have c100b1 : (t215 != t213) = false := bne_eq_false_iff_eq.mpr c100
                      clear c100
                      replace H := Option.bind_eq_some_iff.mp H
                      obtain ⟨⟨t216, t217⟩, A1010, H⟩ := H
                      replace H : ((impl_GapsClose.f kj59 t216 t217).bind fun bt220 => ((laws_eqGaps.f kj59 bt220.1 bt220.2.1 t187 t188).bind fun t226 => (if t226 = true then (laws_FnExactGapsClose.j2 kj59 t213 (bt220.2.2 != t191) t198 t214) else (laws_FnExactGapsClose.j2 kj59 t213 true t198 t214)))) = some r := H
                      have A101 := Aside0.mk A1010
                      clear A1010
                      replace H := Option.bind_eq_some_iff.mp H
                      obtain ⟨⟨t220, t221, t224⟩, A1020, H⟩ := H
                      replace H : ((laws_eqGaps.f kj59 t220 t221 t187 t188).bind fun t226 => (if t226 = true then (laws_FnExactGapsClose.j2 kj59 t213 (t224 != t191) t198 t214) else (laws_FnExactGapsClose.j2 kj59 t213 true t198 t214))) = some r := H
                      have A102 := Aside0.mk A1020
                      clear A1020
                      have HC103 := Aside0.mk H
                      clear H
                      have hnb104 := NB203_181.out
                      have hnc104 := NB181_203.out
                      have hnb105 := NB203_192.out
                      have hnc105 := NB192_203.out
                      have hnb106 := NB203_197.out
                      have hnc106 := NB197_203.out
                      obtain ⟨hcz107_0, hcz107_1, hfz107_0, hfz107_1⟩ := sqc2 BK203
                      go_upto_region 25 with (first | ((with_reducible refine gate_callee (f := 22) rfl ?_); refine sqL (some 64) Try.func22 #[.agg #[.int .i64 t198, .slice Ao36 t199.length co36], .int .i64 1] ?_; (with_reducible refine (laws_markGaps.calls kj59 t198 (fun k_ => some k_ = (.slice Ao36 t199.length co36 : Value).ownBlock) (.slice Ao36 t199.length co36) t199 1 t213 t214 w _ ?side1 ?side2 A90.out).mono ?_); (case side1 => repeat (first | (with_reducible first | exact HB.out | apply below_alloc | apply pw_below_drewN | apply below_drew1 | refine below_set ?_ GE181.out | refine below_set ?_ GE192.out | refine below_set ?_ GE197.out | refine below_set ?_ GE203.out) | exact HB.out)); (case side2 => exact Kd.R_tight rfl HO_204001.out); rintro e w108 ⟨rfl, hy0, hb, hkp⟩; refine ⟨_, rfl, ?_⟩; have n0_ := Aside0.mk (Kd.R_mono (ok' := fun k_ => some k_ ≠ (.slice Ao29 t211.length co29 : Value).ownBlock ∧ some k_ ≠ (.slice Ao36 t199.length co36 : Value).ownBlock) (Kd.R_keptB (HO_193001.out) hkp (fun k_ hk_ hs_ => (hk_.2) hs_)) (fun k_ hk_ => ⟨hk_.1.1, hk_.1.2⟩)); have n1_ := Aside0.mk (Kd.R_mono (ok' := fun k_ => some k_ ≠ (.slice Ao22 t188.length co22 : Value).ownBlock ∧ some k_ ≠ (.slice Ao36 t199.length co36 : Value).ownBlock) (Kd.R_keptB (HO_198001.out) hkp (fun k_ hk_ hs_ => (hk_.2) hs_)) (fun k_ hk_ => ⟨hk_.1.1, hk_.1.2⟩)); have n2_ := Aside0.mk (Kd.R_reok rfl hy0 (fun k_ e_ => HO_204001.out.1 k_ e_)); have n3_ := Aside0.mk (blk_kept (by refine sqt ?_; exact BK181.out) hkp (fun hs_ => (fun e_ => (Kd.R_ne HO_204001.out BK181.out (by decide)) e_) hs_)); have n4_ := Aside0.mk (blk_kept (by refine sqt ?_; exact BK192.out) hkp (fun hs_ => (fun e_ => (Kd.R_ne HO_204001.out BK192.out (by decide)) e_) hs_)); have n5_ := Aside0.mk (blk_kept (by refine sqt ?_; exact BK197.out) hkp (fun hs_ => (fun e_ => (Kd.R_ne HO_204001.out BK197.out (by decide)) e_) hs_)); have n6_ := Aside0.mk (blk_kept (by refine sqt ?_; exact BK203.out) hkp (fun hs_ => (fun e_ => (Kd.R_ne HO_204001.out BK203.out (by decide)) e_) hs_)); have n7_ := Aside0.mk (hb); clear HO_193001; clear HO_198001; clear HO_204001; clear BK181; clear BK192; clear BK197; clear BK203; clear HB; have HO_193001 := n0_; have HO_198001 := n1_; have HO_204001 := n2_; have BK181 := n3_; have BK192 := n4_; have BK197 := n5_; have BK203 := n6_; have HB := n7_; clear n0_ n1_ n2_ n3_ n4_ n5_ n6_ n7_; (try clear hb); (try clear hkp); (try clear hy0); obtain ⟨hcz109_0, hcz109_1, hfz109_0, hfz109_1⟩ := sqc2 BK203) | ((with_reducible refine gate_callee (f := 23) rfl ?_); refine goesL_ (some 67) rfl rfl Try.func23 (by kernel_rfl) rfl #[.agg #[.int .i64 t198, .slice Ao36 t214.length co36], .int .i64 1] rfl (by (try simp only [List.map_toArray, List.map_cons, List.map_nil]); first | done | (rw [show t214.length = t199.length from (Kd.R_reads' HO_204001.out).1.symm] <;> rfl) | rfl | (simp only [List.length_drop, List.length_take]; rfl)) ?_; (with_reducible refine (laws_heldGaps.calls kj59 t198 _ _ t214 1 t215 _ ?side1 ?side2 A91.out).mono ?_); (case side1 => repeat (first | exact (Kd.R_reads' HO_204001.out).2.2 | (with_reducible refine Kd.C_alloc ?_ _) | (with_reducible refine Kd.C_drewN ?_ _) | (with_reducible refine Kd.C_drew ?_))); (case side2 => rw [show t214.length = t199.length from (Kd.R_reads' HO_204001.out).1.symm]; exact (Kd.R_reads' HO_204001.out).2.1); rintro e w110 ⟨rfl, hb⟩; refine ⟨_, rfl, ?_⟩; have n0_ := Aside0.mk (Kd.R_below (by (with_reducible repeat (first | apply Kd.R_alloc | apply Kd.R_drewN | apply Kd.R_drew)); exact HO_193001.out) hb); have n1_ := Aside0.mk (Kd.R_below (by (with_reducible repeat (first | apply Kd.R_alloc | apply Kd.R_drewN | apply Kd.R_drew)); exact HO_198001.out) hb); have n2_ := Aside0.mk (Kd.R_below (by (with_reducible repeat (first | apply Kd.R_alloc | apply Kd.R_drewN | apply Kd.R_drew)); exact HO_204001.out) hb); have n3_ := sqb BK181 hb; have n4_ := sqb BK192 hb; have n5_ := sqb BK197 hb; have n6_ := sqb BK203 hb; have n7_ := sqs HB hb; clear HO_193001; clear HO_198001; clear HO_204001; clear BK181; clear BK192; clear BK197; clear BK203; clear HB; have HO_193001 := n0_; have HO_198001 := n1_; have HO_204001 := n2_; have BK181 := n3_; have BK192 := n4_; have BK197 := n5_; have BK203 := n6_; have HB := n7_; clear n0_ n1_ n2_ n3_ n4_ n5_ n6_ n7_; (try clear hb); have hnb111 := NB181_192.out; have hnc111 := NB192_181.out; have hnb112 := NB181_197.out; have hnc112 := NB197_181.out; obtain ⟨hcz113_0, hcz113_1, hfz113_0, hfz113_1⟩ := sqc2 BK181) | ((with_reducible refine gate_callee (f := 16) rfl ?_); refine sqL (some 75) Try.func16 #[.agg #[.int .i64 a0_0, .slice A0_1 l0_1.length c0_1]] ?_; (with_reducible refine (laws_toGaps.calls kj59 a0_0 _ _ l0_1 t216 t217 _ ?side1 ?side2 A101.out).mono ?_); (case side1 => repeat (first | exact (Kd.C_below HR0_1.out HB.out) | (with_reducible refine Kd.C_alloc ?_ _) | (with_reducible refine Kd.C_drewN ?_ _) | (with_reducible refine Kd.C_drew ?_))); (case side2 => exact HC0_1.out); rintro e w114 ⟨v218, rfl, ho0, hb⟩; refine ⟨_, rfl, ?_⟩; have n0_ := Aside0.mk (Kd.R_elder' (by (with_reducible repeat (first | apply Kd.R_alloc | apply Kd.R_drewN | apply Kd.R_drew)); exact HO_193001.out) (Kd.R_base ho0) hb); have n1_ := Aside0.mk (Kd.R_elder' (by (with_reducible repeat (first | apply Kd.R_alloc | apply Kd.R_drewN | apply Kd.R_drew)); exact HO_198001.out) (Kd.R_base ho0) hb); have n2_ := Aside0.mk (Kd.R_elder' (by (with_reducible repeat (first | apply Kd.R_alloc | apply Kd.R_drewN | apply Kd.R_drew)); exact HO_204001.out) (Kd.R_base ho0) hb); have n3_ := Aside0.mk (Kd.R_lower (Kd.R_new' (Kd.R_new' (Kd.R_new' ho0 (Kd.R_lt (by (with_reducible repeat (first | apply Kd.R_alloc | apply Kd.R_drewN | apply Kd.R_drew)); exact HO_193001.out))) (Kd.R_lt (by (with_reducible repeat (first | apply Kd.R_alloc | apply Kd.R_drewN | apply Kd.R_drew)); exact HO_198001.out))) (Kd.R_lt (by (with_reducible repeat (first | apply Kd.R_alloc | apply Kd.R_drewN | apply Kd.R_drew)); exact HO_204001.out))) (below_size (by repeat (first | (with_reducible first | exact HB.out | apply below_alloc | apply pw_below_drewN | apply below_drew1 | refine below_set ?_ GE181.out | refine below_set ?_ GE192.out | refine below_set ?_ GE197.out | refine below_set ?_ GE203.out) | exact HB.out)))); have n4_ := sqb BK181 hb; have n5_ := sqb BK192 hb; have n6_ := sqb BK197 hb; have n7_ := sqb BK203 hb; have n8_ := sqs HB hb; clear HO_193001; clear HO_198001; clear HO_204001; clear BK181; clear BK192; clear BK197; clear BK203; clear HB; have HO_193001 := n0_; have HO_198001 := n1_; have HO_204001 := n2_; have HO219 := n3_; have BK181 := n4_; have BK192 := n5_; have BK197 := n6_; have BK203 := n7_; have HB := n8_; clear n0_ n1_ n2_ n3_ n4_ n5_ n6_ n7_ n8_; (try clear hb); (try clear hb2); (try clear hk); (try clear hi); (try clear ho0); obtain ⟨Ao115, co115, eo115⟩ := Kd.R_slice HO219.out; subst eo115) | ((with_reducible refine gate_callee (f := 31) rfl ?_); refine sqL (some 76) Try.func31 #[.agg #[.int .i64 t216, .slice Ao115 t217.length co115]] ?_; (with_reducible refine (impl_GapsClose.calls kj59 t216 _ _ t217 t220 t221 t224 _ ?side1 ?side2 A102.out).mono ?_); (case side1 => repeat (first | exact (Kd.R_reads' HO219.out).2.2 | (with_reducible refine Kd.C_alloc ?_ _) | (with_reducible refine Kd.C_drewN ?_ _) | (with_reducible refine Kd.C_drew ?_))); (case side2 => exact (Kd.R_reads' HO219.out).2.1); rintro e w116 ⟨v222, rfl, ho0, hb⟩; refine ⟨_, rfl, ?_⟩; have n0_ := Aside0.mk (Kd.R_elder' (by (with_reducible repeat (first | apply Kd.R_alloc | apply Kd.R_drewN | apply Kd.R_drew)); exact HO_193001.out) (Kd.R_base ho0) hb); have n1_ := Aside0.mk (Kd.R_elder' (by (with_reducible repeat (first | apply Kd.R_alloc | apply Kd.R_drewN | apply Kd.R_drew)); exact HO_198001.out) (Kd.R_base ho0) hb); have n2_ := Aside0.mk (Kd.R_elder' (by (with_reducible repeat (first | apply Kd.R_alloc | apply Kd.R_drewN | apply Kd.R_drew)); exact HO_204001.out) (Kd.R_base ho0) hb); have n3_ := Aside0.mk (Kd.R_elder' (by (with_reducible repeat (first | apply Kd.R_alloc | apply Kd.R_drewN | apply Kd.R_drew)); exact HO219.out) (Kd.R_base ho0) hb); have n4_ := Aside0.mk (Kd.R_lower (Kd.R_new' (Kd.R_new' (Kd.R_new' (Kd.R_new' ho0 (Kd.R_lt (by (with_reducible repeat (first | apply Kd.R_alloc | apply Kd.R_drewN | apply Kd.R_drew)); exact HO_193001.out))) (Kd.R_lt (by (with_reducible repeat (first | apply Kd.R_alloc | apply Kd.R_drewN | apply Kd.R_drew)); exact HO_198001.out))) (Kd.R_lt (by (with_reducible repeat (first | apply Kd.R_alloc | apply Kd.R_drewN | apply Kd.R_drew)); exact HO_204001.out))) (Kd.R_lt (by (with_reducible repeat (first | apply Kd.R_alloc | apply Kd.R_drewN | apply Kd.R_drew)); exact HO219.out))) (below_size (by repeat (first | (with_reducible first | exact HB.out | apply below_alloc | apply pw_below_drewN | apply below_drew1 | refine below_set ?_ GE181.out | refine below_set ?_ GE192.out | refine below_set ?_ GE197.out | refine below_set ?_ GE203.out) | exact HB.out)))); have n5_ := sqb BK181 hb; have n6_ := sqb BK192 hb; have n7_ := sqb BK197 hb; have n8_ := sqb BK203 hb; have n9_ := sqs HB hb; clear HO_193001; clear HO_198001; clear HO_204001; clear HO219; clear BK181; clear BK192; clear BK197; clear BK203; clear HB; have HO_193001 := n0_; have HO_198001 := n1_; have HO_204001 := n2_; have HO219 := n3_; have HO223 := n4_; have BK181 := n5_; have BK192 := n6_; have BK197 := n7_; have BK203 := n8_; have HB := n9_; clear n0_ n1_ n2_ n3_ n4_ n5_ n6_ n7_ n8_ n9_; (try clear hb); (try clear hb2); (try clear hk); (try clear hi); (try clear ho0)) | ((with_reducible refine gate_dst (N := 12) rfl ?_); refine sqx 12 #[.int .i64 0, .slice none 0 0] 29 ?_; intro gb225 hg w117 hbox hb; have n0_ := Aside0.mk (Kd.R_below (by (with_reducible repeat (first | apply Kd.R_alloc | apply Kd.R_drewN | apply Kd.R_drew)); exact HO_193001.out) hb); have n1_ := Aside0.mk (Kd.R_below (by (with_reducible repeat (first | apply Kd.R_alloc | apply Kd.R_drewN | apply Kd.R_drew)); exact HO_198001.out) hb); have n2_ := Aside0.mk (Kd.R_below (by (with_reducible repeat (first | apply Kd.R_alloc | apply Kd.R_drewN | apply Kd.R_drew)); exact HO_204001.out) hb); have n3_ := Aside0.mk (Kd.R_below (by (with_reducible repeat (first | apply Kd.R_alloc | apply Kd.R_drewN | apply Kd.R_drew)); exact HO219.out) hb); have n4_ := Aside0.mk (Kd.R_below (by (with_reducible repeat (first | apply Kd.R_alloc | apply Kd.R_drewN | apply Kd.R_drew)); exact HO223.out) hb); have n5_ := sqb BK181 hb; have n6_ := sqb BK192 hb; have n7_ := sqb BK197 hb; have n8_ := sqb BK203 hb; have n9_ := sqs HB hb; have n10_ := Aside0.mk (hbox); have n11_ := sqg HB hg; have n12_ := sqg HB hg; have n13_ := sqn BK181 hg; have n14_ := sqm BK181 hg; have n15_ := sqn BK192 hg; have n16_ := sqm BK192 hg; have n17_ := sqn BK197 hg; have n18_ := sqm BK197 hg; have n19_ := sqn BK203 hg; have n20_ := sqm BK203 hg; clear HO_193001; clear HO_198001; clear HO_204001; clear HO219; clear HO223; clear BK181; clear BK192; clear BK197; clear BK203; clear HB; have HO_193001 := n0_; have HO_198001 := n1_; have HO_204001 := n2_; have HO219 := n3_; have HO223 := n4_; have BK181 := n5_; have BK192 := n6_; have BK197 := n7_; have BK203 := n8_; have HB := n9_; have BK225 := n10_; have GW225 := n11_; have GE225 := n12_; have NB181_225 := n13_; have NB225_181 := n14_; have NB192_225 := n15_; have NB225_192 := n16_; have NB197_225 := n17_; have NB225_197 := n18_; have NB203_225 := n19_; have NB225_203 := n20_; clear n0_ n1_ n2_ n3_ n4_ n5_ n6_ n7_ n8_ n9_ n10_ n11_ n12_ n13_ n14_ n15_ n16_ n17_ n18_ n19_ n20_; clear hb hbox hg; have hnb118 := NB225_181.out; have hnc118 := NB181_225.out; have hnb119 := NB225_192.out; have hnc119 := NB192_225.out; have hnb120 := NB225_197.out; have hnc120 := NB197_225.out; have hnb121 := NB225_203.out; have hnc121 := NB203_225.out; obtain ⟨hcz122_0, hcz122_1, hfz122_0, hfz122_1⟩ := sqc2 BK225; obtain ⟨Ao123, co123, eo123⟩ := Kd.R_slice HO223.out; subst eo123))
                      (try simp only [Act.put, List.setIfInBounds_toArray, List.set_cons_zero, List.set_cons_succ])
                      go_cut [87] (fun v87 wc => ∃ (kq : Nat) (x87_102 : Bool), v87 = .bool x87_102 ∧ Aside0 (laws_FnExactGapsClose.j2 kq t213 x87_102 t198 t214 = some r) ∧ Aside0 (kq ≤ kj59) ∧ Aside0 (Kd.R (Kd.int .i64) 3 wc w.heap.size (fun k_ => some k_ ≠ ((.slice Ao29 t211.length co29) : Value).ownBlock ∧ some k_ ≠ ((.slice Ao36 t199.length co36) : Value).ownBlock ∧ some k_ ≠ ((.slice Ao123 t221.length co123) : Value).ownBlock) (.slice Ao22 t188.length co22) t188) ∧ Aside0 (Kd.R (Kd.int .i64) 3 wc w.heap.size (fun k_ => some k_ ≠ ((.slice Ao22 t188.length co22) : Value).ownBlock ∧ some k_ ≠ ((.slice Ao36 t199.length co36) : Value).ownBlock ∧ some k_ ≠ ((.slice Ao123 t221.length co123) : Value).ownBlock) (.slice Ao29 t211.length co29) t211) ∧ Aside0 (Kd.R (Kd.int .i64) 3 wc w.heap.size (fun k_ => some k_ ≠ ((.slice Ao22 t188.length co22) : Value).ownBlock ∧ some k_ ≠ ((.slice Ao29 t211.length co29) : Value).ownBlock ∧ some k_ ≠ ((.slice Ao123 t221.length co123) : Value).ownBlock) (.slice Ao36 t199.length co36) t214) ∧ Aside0 (Kd.R (Kd.int .i64) 3 wc w.heap.size (fun k_ => some k_ ≠ ((.slice Ao22 t188.length co22) : Value).ownBlock ∧ some k_ ≠ ((.slice Ao29 t211.length co29) : Value).ownBlock ∧ some k_ ≠ ((.slice Ao36 t199.length co36) : Value).ownBlock) (.slice Ao123 t221.length co123) t221) ∧ Aside0 (wc.heap[gb181]? = some (.cells #[.int .i64 a0_0, (.slice A0_1 l0_1.length c0_1)] 24 (0, 0))) ∧ Aside0 (wc.heap[gb192]? = some (.cells #[.int .i64 t187, (.slice Ao22 t188.length co22)] 29 (0, 0))) ∧ Aside0 (wc.heap[gb197]? = some (.cells #[.int .i64 t193, (.slice Ao29 t211.length co29)] 29 (0, 0))) ∧ Aside0 (wc.heap[gb203]? = some (.cells #[.int .i64 t198, (.slice Ao36 t199.length co36)] 29 (0, 0))) ∧ Aside0 (wc.heap[gb225]? = some (.cells #[.int .i64 t220, (.slice Ao123 t221.length co123)] 29 (0, 0))) ∧ Aside0 (Below w.heap.size w wc))
                      case first =>
                        as_aux_lemma =>
                        have H := HC103.out
                        clear HC103
                        replace H := Option.bind_eq_some_iff.mp H
                        obtain ⟨t226, A1240, H⟩ := H
                        replace H : (if t226 = true then (laws_FnExactGapsClose.j2 kj59 t213 (t224 != t191) t198 t214) else (laws_FnExactGapsClose.j2 kj59 t213 true t198 t214)) = some r := H
                        have A124 := Aside0.mk A1240
                        clear A1240
                        by_cases c125 : t226 = true
                        · subst c125
                          have H1 : (laws_FnExactGapsClose.j2 kj59 t213 (t224 != t191) t198 t214) = some r := by rw [if_pos rfl] at H; exact H
                          clear H
                          have H := H1
                          clear H1
                          have H' := Aside0.mk H
                          clear H
                          have hnb126 := NB225_181.out
                          have hnc126 := NB181_225.out
                          have hnb127 := NB225_192.out
                          have hnc127 := NB192_225.out
                          have hnb128 := NB225_197.out
                          have hnc128 := NB197_225.out
                          have hnb129 := NB225_203.out
                          have hnc129 := NB203_225.out
                          obtain ⟨hcz130_0, hcz130_1, hfz130_0, hfz130_1⟩ := sqc2 BK225
                          have hnb131 := NB192_181.out
                          have hnc131 := NB181_192.out
                          have hnb132 := NB192_197.out
                          have hnc132 := NB197_192.out
                          have hnb133 := NB192_203.out
                          have hnc133 := NB203_192.out
                          obtain ⟨hcz134_0, hcz134_1, hfz134_0, hfz134_1⟩ := sqc2 BK192
                          go_wp2_with (first | ((with_reducible refine gate_callee (f := 19) rfl ?_); refine sqL (some 81) Try.func19 #[.agg #[.int .i64 t220, .slice Ao123 t221.length co123], .agg #[.int .i64 t187, .slice Ao22 t188.length co22]] ?_; (with_reducible refine (laws_eqGaps.calls kj59 t220 _ _ t221 t187 _ _ t188 true _ ?side1 ?side2 ?side3 ?side4 A124.out).mono ?_); (case side1 => refine (Kd.R_reads' (e := 3) (base := w.heap.size) (ok := fun k_ => ((((True ∧ some k_ ≠ (.slice Ao22 t188.length co22 : Value).ownBlock) ∧ some k_ ≠ (.slice Ao29 t211.length co29 : Value).ownBlock) ∧ some k_ ≠ (.slice Ao36 t199.length co36 : Value).ownBlock) ∧ some k_ ≠ (.slice Ao115 t217.length co115 : Value).ownBlock)) (n := t221.length) (c := co123) ?_).2.2; exact (by (with_reducible repeat (first | apply Kd.R_alloc | apply Kd.R_drewN | apply Kd.R_drew)); exact (Kd.R_mono (Kd.R_far (p := ⟨gb225, 1, none⟩) (Kd.R_far (p := ⟨gb225, 0, none⟩) (Kd.R_types HO223.out BK225.out (by decide)) (fun _ hk => hk.2) (.int .i64 t220)) (fun _ hk => hk.2) (.slice Ao123 t221.length co123)) (fun _ h_ => h_.1)))); (case side2 => exact (Kd.R_reads' HO223.out).2.1); (case side3 => refine (Kd.R_reads' (e := 3) (base := w.heap.size) (ok := fun k_ => (((some k_ ≠ (.slice Ao29 t211.length co29 : Value).ownBlock ∧ some k_ ≠ (.slice Ao36 t199.length co36 : Value).ownBlock) ∧ some k_ ≠ (.slice Ao115 t217.length co115 : Value).ownBlock) ∧ some k_ ≠ (.slice Ao123 t221.length co123 : Value).ownBlock)) (n := t188.length) (c := co22) ?_).2.2; exact (by (with_reducible repeat (first | apply Kd.R_alloc | apply Kd.R_drewN | apply Kd.R_drew)); exact (Kd.R_mono (Kd.R_far (p := ⟨gb225, 1, none⟩) (Kd.R_far (p := ⟨gb225, 0, none⟩) (Kd.R_types HO_193001.out BK225.out (by decide)) (fun _ hk => hk.2) (.int .i64 t220)) (fun _ hk => hk.2) (.slice Ao123 t221.length co123)) (fun _ h_ => h_.1)))); (case side4 => exact (Kd.R_reads' HO_193001.out).2.1); rintro e w135 ⟨rfl, hb⟩; refine ⟨_, rfl, ?_⟩; have n0_ := Aside0.mk (Kd.R_below (by (with_reducible repeat (first | apply Kd.R_alloc | apply Kd.R_drewN | apply Kd.R_drew)); exact (Kd.R_mono (Kd.R_far (p := ⟨gb225, 1, none⟩) (Kd.R_far (p := ⟨gb225, 0, none⟩) (Kd.R_types HO_193001.out BK225.out (by decide)) (fun _ hk => hk.2) (.int .i64 t220)) (fun _ hk => hk.2) (.slice Ao123 t221.length co123)) (fun _ h_ => h_.1))) hb); have n1_ := Aside0.mk (Kd.R_below (by (with_reducible repeat (first | apply Kd.R_alloc | apply Kd.R_drewN | apply Kd.R_drew)); exact (Kd.R_mono (Kd.R_far (p := ⟨gb225, 1, none⟩) (Kd.R_far (p := ⟨gb225, 0, none⟩) (Kd.R_types HO_198001.out BK225.out (by decide)) (fun _ hk => hk.2) (.int .i64 t220)) (fun _ hk => hk.2) (.slice Ao123 t221.length co123)) (fun _ h_ => h_.1))) hb); have n2_ := Aside0.mk (Kd.R_below (by (with_reducible repeat (first | apply Kd.R_alloc | apply Kd.R_drewN | apply Kd.R_drew)); exact (Kd.R_mono (Kd.R_far (p := ⟨gb225, 1, none⟩) (Kd.R_far (p := ⟨gb225, 0, none⟩) (Kd.R_types HO_204001.out BK225.out (by decide)) (fun _ hk => hk.2) (.int .i64 t220)) (fun _ hk => hk.2) (.slice Ao123 t221.length co123)) (fun _ h_ => h_.1))) hb); have n3_ := Aside0.mk (Kd.R_below (by (with_reducible repeat (first | apply Kd.R_alloc | apply Kd.R_drewN | apply Kd.R_drew)); exact (Kd.R_mono (Kd.R_far (p := ⟨gb225, 1, none⟩) (Kd.R_far (p := ⟨gb225, 0, none⟩) (Kd.R_types HO219.out BK225.out (by decide)) (fun _ hk => hk.2) (.int .i64 t220)) (fun _ hk => hk.2) (.slice Ao123 t221.length co123)) (fun _ h_ => h_.1))) hb); have n4_ := Aside0.mk (Kd.R_below (by (with_reducible repeat (first | apply Kd.R_alloc | apply Kd.R_drewN | apply Kd.R_drew)); exact (Kd.R_mono (Kd.R_far (p := ⟨gb225, 1, none⟩) (Kd.R_far (p := ⟨gb225, 0, none⟩) (Kd.R_types HO223.out BK225.out (by decide)) (fun _ hk => hk.2) (.int .i64 t220)) (fun _ hk => hk.2) (.slice Ao123 t221.length co123)) (fun _ h_ => h_.1))) hb); have n5_ := Aside0.mk (blk_below (g := gb181) (o := .cells #[.int .i64 a0_0, .slice A0_1 l0_1.length c0_1] 24 (0, 0)) (by refine sqt ?_; refine blk_far ?_ NB181_225.out _; refine sqt ?_; refine blk_far ?_ NB181_225.out _; refine sqt ?_; exact BK181.out) hb); have n6_ := Aside0.mk (blk_below (g := gb192) (o := .cells #[.int .i64 t187, .slice Ao22 t188.length co22] 29 (0, 0)) (by refine sqt ?_; refine blk_far ?_ NB192_225.out _; refine sqt ?_; refine blk_far ?_ NB192_225.out _; refine sqt ?_; exact BK192.out) hb); have n7_ := Aside0.mk (blk_below (g := gb197) (o := .cells #[.int .i64 t193, .slice Ao29 t211.length co29] 29 (0, 0)) (by refine sqt ?_; refine blk_far ?_ NB197_225.out _; refine sqt ?_; refine blk_far ?_ NB197_225.out _; refine sqt ?_; exact BK197.out) hb); have n8_ := Aside0.mk (blk_below (g := gb203) (o := .cells #[.int .i64 t198, .slice Ao36 t199.length co36] 29 (0, 0)) (by refine sqt ?_; refine blk_far ?_ NB203_225.out _; refine sqt ?_; refine blk_far ?_ NB203_225.out _; refine sqt ?_; exact BK203.out) hb); have n9_ := Aside0.mk (blk_below (g := gb225) (o := .cells #[.int .i64 t220, .slice Ao123 t221.length co123] 29 (0, 0)) (by refine sqt ?_; refine blk_put (cs := #[.int .i64 t220, .slice none 0 0]) ?_ 1 _ rfl; refine sqt ?_; refine blk_put (cs := #[.int .i64 0, .slice none 0 0]) ?_ 0 _ rfl; refine sqt ?_; exact BK225.out) hb); have n10_ := sqs HB hb; clear HO_193001; clear HO_198001; clear HO_204001; clear HO219; clear HO223; clear BK181; clear BK192; clear BK197; clear BK203; clear BK225; clear HB; have HO_193001 := n0_; have HO_198001 := n1_; have HO_204001 := n2_; have HO219 := n3_; have HO223 := n4_; have BK181 := n5_; have BK192 := n6_; have BK197 := n7_; have BK203 := n8_; have BK225 := n9_; have HB := n10_; clear n0_ n1_ n2_ n3_ n4_ n5_ n6_ n7_ n8_ n9_ n10_; (try clear hb); (try clear hb2); (try clear hk); (try clear hi)))
                          go_meet
                          case rel => exact ⟨_, ((t224 != t191)), (by first | rfl | (simp; done) | (simp [*]; done)), H', ⟨by have := HJ10.out; have := HJ59.out; first | omega | exact Nat.le_refl _⟩, ⟨by (try simp only [hl198001_59]); (with_reducible repeat (first | apply Kd.R_alloc | apply Kd.R_drewN | apply Kd.R_drew)); exact Kd.R_mono HO_193001.out (fun _ hk => ⟨hk.1.1.1, ⟨hk.1.1.2, hk.2⟩⟩)⟩, ⟨by (try simp only [hl198001_59]); (with_reducible repeat (first | apply Kd.R_alloc | apply Kd.R_drewN | apply Kd.R_drew)); exact Kd.R_mono HO_198001.out (fun _ hk => ⟨hk.1.1.1, ⟨hk.1.1.2, hk.2⟩⟩)⟩, ⟨by (try simp only [hl198001_59]); (with_reducible repeat (first | apply Kd.R_alloc | apply Kd.R_drewN | apply Kd.R_drew)); exact Kd.R_mono HO_204001.out (fun _ hk => ⟨hk.1.1.1, ⟨hk.1.1.2, hk.2⟩⟩)⟩, ⟨by (try simp only [hl198001_59]); (with_reducible repeat (first | apply Kd.R_alloc | apply Kd.R_drewN | apply Kd.R_drew)); exact Kd.R_mono HO223.out (fun _ hk => ⟨hk.1.1.1.2, ⟨hk.1.1.2, hk.1.2⟩⟩)⟩, ⟨by (try simp only [hl198001_59]); refine sqt ?_; exact BK181.out⟩, ⟨by (try simp only [hl198001_59]); refine sqt ?_; exact BK192.out⟩, ⟨by (try simp only [hl198001_59]); refine sqt ?_; exact BK197.out⟩, ⟨by (try simp only [hl198001_59]); refine sqt ?_; exact BK203.out⟩, ⟨by (try simp only [hl198001_59]); refine sqt ?_; exact BK225.out⟩, sqh HB⟩
                        · replace c125 := Bool.eq_false_iff.mpr c125
                          subst c125
                          have H1 : (laws_FnExactGapsClose.j2 kj59 t213 true t198 t214) = some r := by rw [if_neg (show ¬ (false = true) by decide)] at H; exact H
                          clear H
                          have H := H1
                          clear H1
                          have H' := Aside0.mk H
                          clear H
                          have hnb136 := NB225_181.out
                          have hnc136 := NB181_225.out
                          have hnb137 := NB225_192.out
                          have hnc137 := NB192_225.out
                          have hnb138 := NB225_197.out
                          have hnc138 := NB197_225.out
                          have hnb139 := NB225_203.out
                          have hnc139 := NB203_225.out
                          obtain ⟨hcz140_0, hcz140_1, hfz140_0, hfz140_1⟩ := sqc2 BK225
                          have hnb141 := NB192_181.out
                          have hnc141 := NB181_192.out
                          have hnb142 := NB192_197.out
                          have hnc142 := NB197_192.out
                          have hnb143 := NB192_203.out
                          have hnc143 := NB203_192.out
                          obtain ⟨hcz144_0, hcz144_1, hfz144_0, hfz144_1⟩ := sqc2 BK192
                          go_wp2_with (first | ((with_reducible refine gate_callee (f := 19) rfl ?_); refine sqL (some 81) Try.func19 #[.agg #[.int .i64 t220, .slice Ao123 t221.length co123], .agg #[.int .i64 t187, .slice Ao22 t188.length co22]] ?_; (with_reducible refine (laws_eqGaps.calls kj59 t220 _ _ t221 t187 _ _ t188 false _ ?side1 ?side2 ?side3 ?side4 A124.out).mono ?_); (case side1 => refine (Kd.R_reads' (e := 3) (base := w.heap.size) (ok := fun k_ => ((((True ∧ some k_ ≠ (.slice Ao22 t188.length co22 : Value).ownBlock) ∧ some k_ ≠ (.slice Ao29 t211.length co29 : Value).ownBlock) ∧ some k_ ≠ (.slice Ao36 t199.length co36 : Value).ownBlock) ∧ some k_ ≠ (.slice Ao115 t217.length co115 : Value).ownBlock)) (n := t221.length) (c := co123) ?_).2.2; exact (by (with_reducible repeat (first | apply Kd.R_alloc | apply Kd.R_drewN | apply Kd.R_drew)); exact (Kd.R_mono (Kd.R_far (p := ⟨gb225, 1, none⟩) (Kd.R_far (p := ⟨gb225, 0, none⟩) (Kd.R_types HO223.out BK225.out (by decide)) (fun _ hk => hk.2) (.int .i64 t220)) (fun _ hk => hk.2) (.slice Ao123 t221.length co123)) (fun _ h_ => h_.1)))); (case side2 => exact (Kd.R_reads' HO223.out).2.1); (case side3 => refine (Kd.R_reads' (e := 3) (base := w.heap.size) (ok := fun k_ => (((some k_ ≠ (.slice Ao29 t211.length co29 : Value).ownBlock ∧ some k_ ≠ (.slice Ao36 t199.length co36 : Value).ownBlock) ∧ some k_ ≠ (.slice Ao115 t217.length co115 : Value).ownBlock) ∧ some k_ ≠ (.slice Ao123 t221.length co123 : Value).ownBlock)) (n := t188.length) (c := co22) ?_).2.2; exact (by (with_reducible repeat (first | apply Kd.R_alloc | apply Kd.R_drewN | apply Kd.R_drew)); exact (Kd.R_mono (Kd.R_far (p := ⟨gb225, 1, none⟩) (Kd.R_far (p := ⟨gb225, 0, none⟩) (Kd.R_types HO_193001.out BK225.out (by decide)) (fun _ hk => hk.2) (.int .i64 t220)) (fun _ hk => hk.2) (.slice Ao123 t221.length co123)) (fun _ h_ => h_.1)))); (case side4 => exact (Kd.R_reads' HO_193001.out).2.1); rintro e w145 ⟨rfl, hb⟩; refine ⟨_, rfl, ?_⟩; have n0_ := Aside0.mk (Kd.R_below (by (with_reducible repeat (first | apply Kd.R_alloc | apply Kd.R_drewN | apply Kd.R_drew)); exact (Kd.R_mono (Kd.R_far (p := ⟨gb225, 1, none⟩) (Kd.R_far (p := ⟨gb225, 0, none⟩) (Kd.R_types HO_193001.out BK225.out (by decide)) (fun _ hk => hk.2) (.int .i64 t220)) (fun _ hk => hk.2) (.slice Ao123 t221.length co123)) (fun _ h_ => h_.1))) hb); have n1_ := Aside0.mk (Kd.R_below (by (with_reducible repeat (first | apply Kd.R_alloc | apply Kd.R_drewN | apply Kd.R_drew)); exact (Kd.R_mono (Kd.R_far (p := ⟨gb225, 1, none⟩) (Kd.R_far (p := ⟨gb225, 0, none⟩) (Kd.R_types HO_198001.out BK225.out (by decide)) (fun _ hk => hk.2) (.int .i64 t220)) (fun _ hk => hk.2) (.slice Ao123 t221.length co123)) (fun _ h_ => h_.1))) hb); have n2_ := Aside0.mk (Kd.R_below (by (with_reducible repeat (first | apply Kd.R_alloc | apply Kd.R_drewN | apply Kd.R_drew)); exact (Kd.R_mono (Kd.R_far (p := ⟨gb225, 1, none⟩) (Kd.R_far (p := ⟨gb225, 0, none⟩) (Kd.R_types HO_204001.out BK225.out (by decide)) (fun _ hk => hk.2) (.int .i64 t220)) (fun _ hk => hk.2) (.slice Ao123 t221.length co123)) (fun _ h_ => h_.1))) hb); have n3_ := Aside0.mk (Kd.R_below (by (with_reducible repeat (first | apply Kd.R_alloc | apply Kd.R_drewN | apply Kd.R_drew)); exact (Kd.R_mono (Kd.R_far (p := ⟨gb225, 1, none⟩) (Kd.R_far (p := ⟨gb225, 0, none⟩) (Kd.R_types HO219.out BK225.out (by decide)) (fun _ hk => hk.2) (.int .i64 t220)) (fun _ hk => hk.2) (.slice Ao123 t221.length co123)) (fun _ h_ => h_.1))) hb); have n4_ := Aside0.mk (Kd.R_below (by (with_reducible repeat (first | apply Kd.R_alloc | apply Kd.R_drewN | apply Kd.R_drew)); exact (Kd.R_mono (Kd.R_far (p := ⟨gb225, 1, none⟩) (Kd.R_far (p := ⟨gb225, 0, none⟩) (Kd.R_types HO223.out BK225.out (by decide)) (fun _ hk => hk.2) (.int .i64 t220)) (fun _ hk => hk.2) (.slice Ao123 t221.length co123)) (fun _ h_ => h_.1))) hb); have n5_ := Aside0.mk (blk_below (g := gb181) (o := .cells #[.int .i64 a0_0, .slice A0_1 l0_1.length c0_1] 24 (0, 0)) (by refine sqt ?_; refine blk_far ?_ NB181_225.out _; refine sqt ?_; refine blk_far ?_ NB181_225.out _; refine sqt ?_; exact BK181.out) hb); have n6_ := Aside0.mk (blk_below (g := gb192) (o := .cells #[.int .i64 t187, .slice Ao22 t188.length co22] 29 (0, 0)) (by refine sqt ?_; refine blk_far ?_ NB192_225.out _; refine sqt ?_; refine blk_far ?_ NB192_225.out _; refine sqt ?_; exact BK192.out) hb); have n7_ := Aside0.mk (blk_below (g := gb197) (o := .cells #[.int .i64 t193, .slice Ao29 t211.length co29] 29 (0, 0)) (by refine sqt ?_; refine blk_far ?_ NB197_225.out _; refine sqt ?_; refine blk_far ?_ NB197_225.out _; refine sqt ?_; exact BK197.out) hb); have n8_ := Aside0.mk (blk_below (g := gb203) (o := .cells #[.int .i64 t198, .slice Ao36 t199.length co36] 29 (0, 0)) (by refine sqt ?_; refine blk_far ?_ NB203_225.out _; refine sqt ?_; refine blk_far ?_ NB203_225.out _; refine sqt ?_; exact BK203.out) hb); have n9_ := Aside0.mk (blk_below (g := gb225) (o := .cells #[.int .i64 t220, .slice Ao123 t221.length co123] 29 (0, 0)) (by refine sqt ?_; refine blk_put (cs := #[.int .i64 t220, .slice none 0 0]) ?_ 1 _ rfl; refine sqt ?_; refine blk_put (cs := #[.int .i64 0, .slice none 0 0]) ?_ 0 _ rfl; refine sqt ?_; exact BK225.out) hb); have n10_ := sqs HB hb; clear HO_193001; clear HO_198001; clear HO_204001; clear HO219; clear HO223; clear BK181; clear BK192; clear BK197; clear BK203; clear BK225; clear HB; have HO_193001 := n0_; have HO_198001 := n1_; have HO_204001 := n2_; have HO219 := n3_; have HO223 := n4_; have BK181 := n5_; have BK192 := n6_; have BK197 := n7_; have BK203 := n8_; have BK225 := n9_; have HB := n10_; clear n0_ n1_ n2_ n3_ n4_ n5_ n6_ n7_ n8_ n9_ n10_; (try clear hb); (try clear hb2); (try clear hk); (try clear hi)))
                          go_meet
                          case rel => exact ⟨_, (true), (by first | rfl | (simp; done) | (simp [*]; done)), H', ⟨by have := HJ10.out; have := HJ59.out; first | omega | exact Nat.le_refl _⟩, ⟨by (try simp only [hl198001_59]); (with_reducible repeat (first | apply Kd.R_alloc | apply Kd.R_drewN | apply Kd.R_drew)); exact Kd.R_mono HO_193001.out (fun _ hk => ⟨hk.1.1.1, ⟨hk.1.1.2, hk.2⟩⟩)⟩, ⟨by (try simp only [hl198001_59]); (with_reducible repeat (first | apply Kd.R_alloc | apply Kd.R_drewN | apply Kd.R_drew)); exact Kd.R_mono HO_198001.out (fun _ hk => ⟨hk.1.1.1, ⟨hk.1.1.2, hk.2⟩⟩)⟩, ⟨by (try simp only [hl198001_59]); (with_reducible repeat (first | apply Kd.R_alloc | apply Kd.R_drewN | apply Kd.R_drew)); exact Kd.R_mono HO_204001.out (fun _ hk => ⟨hk.1.1.1, ⟨hk.1.1.2, hk.2⟩⟩)⟩, ⟨by (try simp only [hl198001_59]); (with_reducible repeat (first | apply Kd.R_alloc | apply Kd.R_drewN | apply Kd.R_drew)); exact Kd.R_mono HO223.out (fun _ hk => ⟨hk.1.1.1.2, ⟨hk.1.1.2, hk.1.2⟩⟩)⟩, ⟨by (try simp only [hl198001_59]); refine sqt ?_; exact BK181.out⟩, ⟨by (try simp only [hl198001_59]); refine sqt ?_; exact BK192.out⟩, ⟨by (try simp only [hl198001_59]); refine sqt ?_; exact BK197.out⟩, ⟨by (try simp only [hl198001_59]); refine sqt ?_; exact BK203.out⟩, ⟨by (try simp only [hl198001_59]); refine sqt ?_; exact BK225.out⟩, sqh HB⟩
                      case rest =>
                        as_aux_lemma =>
                        clear HC103
                        try clear c3
                        try clear c3b0
                        try clear c38
                        try clear c55
                        try clear c58
                        try clear c70
                        try clear c70b0
                        try clear c72
                        try clear c89
                        try clear c92
                        try clear c92b0
                        try clear c100
                        try clear c100b0
                        try clear c100b1
                        try clear hcz107_0
                        try clear hcz107_1
                        try clear hcz109_0
                        try clear hcz109_1
                        try clear hcz113_0
                        try clear hcz113_1
                        try clear hcz122_0
                        try clear hcz122_1
                        try clear hcz13_0
                        try clear hcz13_1
                        try clear hcz15_0
                        try clear hcz15_1
                        try clear hcz21_0
                        try clear hcz21_1
                        try clear hcz23_0
                        try clear hcz23_1
                        try clear hcz28_0
                        try clear hcz28_1
                        try clear hcz35_0
                        try clear hcz35_1
                        try clear hcz42_0
                        try clear hcz42_1
                        try clear hcz45_0
                        try clear hcz45_1
                        try clear hcz50_0
                        try clear hcz50_1
                        try clear hcz53_0
                        try clear hcz53_1
                        try clear hcz5_0
                        try clear hcz5_1
                        try clear hcz68_0
                        try clear hcz68_1
                        try clear hcz76_0
                        try clear hcz76_1
                        try clear hcz79_0
                        try clear hcz79_1
                        try clear hcz84_0
                        try clear hcz84_1
                        try clear hcz87_0
                        try clear hcz87_1
                        try clear hcz96_0
                        try clear hcz96_1
                        try clear hcz98_0
                        try clear hcz98_1
                        try clear hfz107_0
                        try clear hfz107_1
                        try clear hfz109_0
                        try clear hfz109_1
                        try clear hfz113_0
                        try clear hfz113_1
                        try clear hfz122_0
                        try clear hfz122_1
                        try clear hfz13_0
                        try clear hfz13_1
                        try clear hfz15_0
                        try clear hfz15_1
                        try clear hfz21_0
                        try clear hfz21_1
                        try clear hfz23_0
                        try clear hfz23_1
                        try clear hfz28_0
                        try clear hfz28_1
                        try clear hfz35_0
                        try clear hfz35_1
                        try clear hfz42_0
                        try clear hfz42_1
                        try clear hfz45_0
                        try clear hfz45_1
                        try clear hfz50_0
                        try clear hfz50_1
                        try clear hfz53_0
                        try clear hfz53_1
                        try clear hfz5_0
                        try clear hfz5_1
                        try clear hfz68_0
                        try clear hfz68_1
                        try clear hfz76_0
                        try clear hfz76_1
                        try clear hfz79_0
                        try clear hfz79_1
                        try clear hfz84_0
                        try clear hfz84_1
                        try clear hfz87_0
                        try clear hfz87_1
                        try clear hfz96_0
                        try clear hfz96_1
                        try clear hfz98_0
                        try clear hfz98_1
                        obtain ⟨kq, x87_102, rfl, HA, HJ102, HO_193001, HO_198001, HO_204001, HO_226001, BK181, BK192, BK197, BK203, BK225, HB⟩ := hcut
                        have hl204001_102 := (Kd.R_reads' HO_204001.out).1
                        rw [hl204001_102] at HO_204001
                        (try simp only [hl204001_102])
                        (try simp only [hl204001_102] at BK181)
                        (try simp only [hl204001_102] at BK192)
                        (try simp only [hl204001_102] at BK197)
                        (try simp only [hl204001_102] at BK203)
                        (try simp only [hl204001_102] at BK225)
                        (try simp only [hl204001_102] at HO_193001)
                        (try simp only [hl204001_102] at HO_198001)
                        (try simp only [hl204001_102] at HO_226001)
                        cases kq with
                        | zero => exact absurd HA.out (by simp [laws_FnExactGapsClose.j2])
                        | succ kj102 =>
                          have H := HA.out
                          clear HA
                          simp only [laws_FnExactGapsClose.j2] at H
                          by_cases c146 : x87_102 = true
                          · subst c146
                            have H1 : (some false) = some r := by rw [if_pos rfl] at H; exact H
                            clear H
                            have H := H1
                            clear H1
                            obtain rfl := Option.some.inj H
                            go_wp2
                            go_ret
                            exact sqe HB
                          · replace c146 := Bool.eq_false_iff.mpr c146
                            subst c146
                            have H1 : ((laws_heldGaps.f kj102 t198 t214 1).bind fun t227 => (if t227 < 0 then (some false) else (if t227 = t213 then (some true) else (some false)))) = some r := by rw [if_neg (show ¬ (false = true) by decide)] at H; exact H
                            clear H
                            have H := H1
                            clear H1
                            replace H := Option.bind_eq_some_iff.mp H
                            obtain ⟨t227, A1470, H⟩ := H
                            replace H : (if t227 < 0 then (some false) else (if t227 = t213 then (some true) else (some false))) = some r := H
                            have A147 := Aside0.mk A1470
                            clear A1470
                            by_cases c148 : t227 < 0
                            · rw [if_pos c148] at H
                              have c148b0 : decide (t227 < 0) = true := decide_eq_true c148
                              clear c148
                              obtain rfl := Option.some.inj H
                              have hnb149 := NB203_181.out
                              have hnc149 := NB181_203.out
                              have hnb150 := NB203_192.out
                              have hnc150 := NB192_203.out
                              have hnb151 := NB203_197.out
                              have hnc151 := NB197_203.out
                              have hnb152 := NB203_225.out
                              have hnc152 := NB225_203.out
                              obtain ⟨hcz153_0, hcz153_1, hfz153_0, hfz153_1⟩ := sqc2 BK203
                              go_wp2_with (first | ((with_reducible refine gate_callee (f := 23) rfl ?_); refine sqL (some 90) Try.func23 #[.agg #[.int .i64 t198, .slice Ao36 t214.length co36], .int .i64 1] ?_; (with_reducible refine (laws_heldGaps.calls kj102 t198 _ _ t214 1 t227 _ ?side1 ?side2 A147.out).mono ?_); (case side1 => repeat (first | exact (Kd.R_reads' HO_204001.out).2.2 | (with_reducible refine Kd.C_alloc ?_ _) | (with_reducible refine Kd.C_drewN ?_ _) | (with_reducible refine Kd.C_drew ?_))); (case side2 => exact (Kd.R_reads' HO_204001.out).2.1); rintro e w154 ⟨rfl, hb⟩; refine ⟨_, rfl, ?_⟩; have n0_ := Aside0.mk (Kd.R_below (by (with_reducible repeat (first | apply Kd.R_alloc | apply Kd.R_drewN | apply Kd.R_drew)); exact HO_193001.out) hb); have n1_ := Aside0.mk (Kd.R_below (by (with_reducible repeat (first | apply Kd.R_alloc | apply Kd.R_drewN | apply Kd.R_drew)); exact HO_198001.out) hb); have n2_ := Aside0.mk (Kd.R_below (by (with_reducible repeat (first | apply Kd.R_alloc | apply Kd.R_drewN | apply Kd.R_drew)); exact HO_204001.out) hb); have n3_ := Aside0.mk (Kd.R_below (by (with_reducible repeat (first | apply Kd.R_alloc | apply Kd.R_drewN | apply Kd.R_drew)); exact HO_226001.out) hb); have n4_ := sqb BK181 hb; have n5_ := sqb BK192 hb; have n6_ := sqb BK197 hb; have n7_ := sqb BK203 hb; have n8_ := sqb BK225 hb; have n9_ := sqs HB hb; clear HO_193001; clear HO_198001; clear HO_204001; clear HO_226001; clear BK181; clear BK192; clear BK197; clear BK203; clear BK225; clear HB; have HO_193001 := n0_; have HO_198001 := n1_; have HO_204001 := n2_; have HO_226001 := n3_; have BK181 := n4_; have BK192 := n5_; have BK197 := n6_; have BK203 := n7_; have BK225 := n8_; have HB := n9_; clear n0_ n1_ n2_ n3_ n4_ n5_ n6_ n7_ n8_ n9_; (try clear hb)))
                              go_ret
                              exact sqe HB
                            · rw [if_neg c148] at H
                              have c148b0 : decide (t227 < 0) = false := decide_eq_false c148
                              clear c148
                              by_cases c155 : t227 = t213
                              · rw [if_pos c155] at H
                                have c155b0 : (t227 == t213) = true := beq_iff_eq.mpr c155
                                have c155b1 : (t227 != t213) = false := bne_eq_false_iff_eq.mpr c155
                                clear c155
                                obtain rfl := Option.some.inj H
                                have hnb156 := NB203_181.out
                                have hnc156 := NB181_203.out
                                have hnb157 := NB203_192.out
                                have hnc157 := NB192_203.out
                                have hnb158 := NB203_197.out
                                have hnc158 := NB197_203.out
                                have hnb159 := NB203_225.out
                                have hnc159 := NB225_203.out
                                obtain ⟨hcz160_0, hcz160_1, hfz160_0, hfz160_1⟩ := sqc2 BK203
                                go_wp2_with (first | ((with_reducible refine gate_callee (f := 23) rfl ?_); refine sqL (some 90) Try.func23 #[.agg #[.int .i64 t198, .slice Ao36 t214.length co36], .int .i64 1] ?_; (with_reducible refine (laws_heldGaps.calls kj102 t198 _ _ t214 1 t227 _ ?side1 ?side2 A147.out).mono ?_); (case side1 => repeat (first | exact (Kd.R_reads' HO_204001.out).2.2 | (with_reducible refine Kd.C_alloc ?_ _) | (with_reducible refine Kd.C_drewN ?_ _) | (with_reducible refine Kd.C_drew ?_))); (case side2 => exact (Kd.R_reads' HO_204001.out).2.1); rintro e w161 ⟨rfl, hb⟩; refine ⟨_, rfl, ?_⟩; have n0_ := Aside0.mk (Kd.R_below (by (with_reducible repeat (first | apply Kd.R_alloc | apply Kd.R_drewN | apply Kd.R_drew)); exact HO_193001.out) hb); have n1_ := Aside0.mk (Kd.R_below (by (with_reducible repeat (first | apply Kd.R_alloc | apply Kd.R_drewN | apply Kd.R_drew)); exact HO_198001.out) hb); have n2_ := Aside0.mk (Kd.R_below (by (with_reducible repeat (first | apply Kd.R_alloc | apply Kd.R_drewN | apply Kd.R_drew)); exact HO_204001.out) hb); have n3_ := Aside0.mk (Kd.R_below (by (with_reducible repeat (first | apply Kd.R_alloc | apply Kd.R_drewN | apply Kd.R_drew)); exact HO_226001.out) hb); have n4_ := sqb BK181 hb; have n5_ := sqb BK192 hb; have n6_ := sqb BK197 hb; have n7_ := sqb BK203 hb; have n8_ := sqb BK225 hb; have n9_ := sqs HB hb; clear HO_193001; clear HO_198001; clear HO_204001; clear HO_226001; clear BK181; clear BK192; clear BK197; clear BK203; clear BK225; clear HB; have HO_193001 := n0_; have HO_198001 := n1_; have HO_204001 := n2_; have HO_226001 := n3_; have BK181 := n4_; have BK192 := n5_; have BK197 := n6_; have BK203 := n7_; have BK225 := n8_; have HB := n9_; clear n0_ n1_ n2_ n3_ n4_ n5_ n6_ n7_ n8_ n9_; (try clear hb)))
                                go_ret
                                exact sqe HB
                              · rw [if_neg c155] at H
                                have c155b0 : (t227 == t213) = false := beq_eq_false_iff_ne.mpr c155
                                have c155b1 : (t227 != t213) = true := bne_iff_ne.mpr c155
                                obtain rfl := Option.some.inj H
                                have hnb162 := NB203_181.out
                                have hnc162 := NB181_203.out
                                have hnb163 := NB203_192.out
                                have hnc163 := NB192_203.out
                                have hnb164 := NB203_197.out
                                have hnc164 := NB197_203.out
                                have hnb165 := NB203_225.out
                                have hnc165 := NB225_203.out
                                obtain ⟨hcz166_0, hcz166_1, hfz166_0, hfz166_1⟩ := sqc2 BK203
                                go_wp2_with (first | ((with_reducible refine gate_callee (f := 23) rfl ?_); refine sqL (some 90) Try.func23 #[.agg #[.int .i64 t198, .slice Ao36 t214.length co36], .int .i64 1] ?_; (with_reducible refine (laws_heldGaps.calls kj102 t198 _ _ t214 1 t227 _ ?side1 ?side2 A147.out).mono ?_); (case side1 => repeat (first | exact (Kd.R_reads' HO_204001.out).2.2 | (with_reducible refine Kd.C_alloc ?_ _) | (with_reducible refine Kd.C_drewN ?_ _) | (with_reducible refine Kd.C_drew ?_))); (case side2 => exact (Kd.R_reads' HO_204001.out).2.1); rintro e w167 ⟨rfl, hb⟩; refine ⟨_, rfl, ?_⟩; have n0_ := Aside0.mk (Kd.R_below (by (with_reducible repeat (first | apply Kd.R_alloc | apply Kd.R_drewN | apply Kd.R_drew)); exact HO_193001.out) hb); have n1_ := Aside0.mk (Kd.R_below (by (with_reducible repeat (first | apply Kd.R_alloc | apply Kd.R_drewN | apply Kd.R_drew)); exact HO_198001.out) hb); have n2_ := Aside0.mk (Kd.R_below (by (with_reducible repeat (first | apply Kd.R_alloc | apply Kd.R_drewN | apply Kd.R_drew)); exact HO_204001.out) hb); have n3_ := Aside0.mk (Kd.R_below (by (with_reducible repeat (first | apply Kd.R_alloc | apply Kd.R_drewN | apply Kd.R_drew)); exact HO_226001.out) hb); have n4_ := sqb BK181 hb; have n5_ := sqb BK192 hb; have n6_ := sqb BK197 hb; have n7_ := sqb BK203 hb; have n8_ := sqb BK225 hb; have n9_ := sqs HB hb; clear HO_193001; clear HO_198001; clear HO_204001; clear HO_226001; clear BK181; clear BK192; clear BK197; clear BK203; clear BK225; clear HB; have HO_193001 := n0_; have HO_198001 := n1_; have HO_204001 := n2_; have HO_226001 := n3_; have BK181 := n4_; have BK192 := n5_; have BK197 := n6_; have BK203 := n7_; have BK225 := n8_; have HB := n9_; clear n0_ n1_ n2_ n3_ n4_ n5_ n6_ n7_ n8_ n9_; (try clear hb)))
                                go_ret
                                exact sqe HB
                    · rw [if_neg c100] at H
                      have c100b0 : (t215 == t213) = false := beq_eq_false_iff_ne.mpr c100
                      have c100b1 : (t215 != t213) = true := bne_iff_ne.mpr c100
                      obtain rfl := Option.some.inj H
                      have hnb168 := NB203_181.out
                      have hnc168 := NB181_203.out
                      have hnb169 := NB203_192.out
                      have hnc169 := NB192_203.out
                      have hnb170 := NB203_197.out
                      have hnc170 := NB197_203.out
                      obtain ⟨hcz171_0, hcz171_1, hfz171_0, hfz171_1⟩ := sqc2 BK203
                      go_wp2_with (first | ((with_reducible refine gate_callee (f := 22) rfl ?_); refine sqL (some 64) Try.func22 #[.agg #[.int .i64 t198, .slice Ao36 t199.length co36], .int .i64 1] ?_; (with_reducible refine (laws_markGaps.calls kj59 t198 (fun k_ => some k_ = (.slice Ao36 t199.length co36 : Value).ownBlock) (.slice Ao36 t199.length co36) t199 1 t213 t214 w _ ?side1 ?side2 A90.out).mono ?_); (case side1 => repeat (first | (with_reducible first | exact HB.out | apply below_alloc | apply pw_below_drewN | apply below_drew1 | refine below_set ?_ GE181.out | refine below_set ?_ GE192.out | refine below_set ?_ GE197.out | refine below_set ?_ GE203.out) | exact HB.out)); (case side2 => exact Kd.R_tight rfl HO_204001.out); rintro e w172 ⟨rfl, hy0, hb, hkp⟩; refine ⟨_, rfl, ?_⟩; have n0_ := Aside0.mk (Kd.R_mono (ok' := fun k_ => some k_ ≠ (.slice Ao29 t211.length co29 : Value).ownBlock ∧ some k_ ≠ (.slice Ao36 t199.length co36 : Value).ownBlock) (Kd.R_keptB (HO_193001.out) hkp (fun k_ hk_ hs_ => (hk_.2) hs_)) (fun k_ hk_ => ⟨hk_.1.1, hk_.1.2⟩)); have n1_ := Aside0.mk (Kd.R_mono (ok' := fun k_ => some k_ ≠ (.slice Ao22 t188.length co22 : Value).ownBlock ∧ some k_ ≠ (.slice Ao36 t199.length co36 : Value).ownBlock) (Kd.R_keptB (HO_198001.out) hkp (fun k_ hk_ hs_ => (hk_.2) hs_)) (fun k_ hk_ => ⟨hk_.1.1, hk_.1.2⟩)); have n2_ := Aside0.mk (Kd.R_reok rfl hy0 (fun k_ e_ => HO_204001.out.1 k_ e_)); have n3_ := Aside0.mk (blk_kept (by refine sqt ?_; exact BK181.out) hkp (fun hs_ => (fun e_ => (Kd.R_ne HO_204001.out BK181.out (by decide)) e_) hs_)); have n4_ := Aside0.mk (blk_kept (by refine sqt ?_; exact BK192.out) hkp (fun hs_ => (fun e_ => (Kd.R_ne HO_204001.out BK192.out (by decide)) e_) hs_)); have n5_ := Aside0.mk (blk_kept (by refine sqt ?_; exact BK197.out) hkp (fun hs_ => (fun e_ => (Kd.R_ne HO_204001.out BK197.out (by decide)) e_) hs_)); have n6_ := Aside0.mk (blk_kept (by refine sqt ?_; exact BK203.out) hkp (fun hs_ => (fun e_ => (Kd.R_ne HO_204001.out BK203.out (by decide)) e_) hs_)); have n7_ := Aside0.mk (hb); clear HO_193001; clear HO_198001; clear HO_204001; clear BK181; clear BK192; clear BK197; clear BK203; clear HB; have HO_193001 := n0_; have HO_198001 := n1_; have HO_204001 := n2_; have BK181 := n3_; have BK192 := n4_; have BK197 := n5_; have BK203 := n6_; have HB := n7_; clear n0_ n1_ n2_ n3_ n4_ n5_ n6_ n7_; (try clear hb); (try clear hkp); (try clear hy0); obtain ⟨hcz173_0, hcz173_1, hfz173_0, hfz173_1⟩ := sqc2 BK203) | ((with_reducible refine gate_callee (f := 23) rfl ?_); refine goesL_ (some 67) rfl rfl Try.func23 (by kernel_rfl) rfl #[.agg #[.int .i64 t198, .slice Ao36 t214.length co36], .int .i64 1] rfl (by (try simp only [List.map_toArray, List.map_cons, List.map_nil]); first | done | (rw [show t214.length = t199.length from (Kd.R_reads' HO_204001.out).1.symm] <;> rfl) | rfl | (simp only [List.length_drop, List.length_take]; rfl)) ?_; (with_reducible refine (laws_heldGaps.calls kj59 t198 _ _ t214 1 t215 _ ?side1 ?side2 A91.out).mono ?_); (case side1 => repeat (first | exact (Kd.R_reads' HO_204001.out).2.2 | (with_reducible refine Kd.C_alloc ?_ _) | (with_reducible refine Kd.C_drewN ?_ _) | (with_reducible refine Kd.C_drew ?_))); (case side2 => rw [show t214.length = t199.length from (Kd.R_reads' HO_204001.out).1.symm]; exact (Kd.R_reads' HO_204001.out).2.1); rintro e w174 ⟨rfl, hb⟩; refine ⟨_, rfl, ?_⟩; have n0_ := Aside0.mk (Kd.R_below (by (with_reducible repeat (first | apply Kd.R_alloc | apply Kd.R_drewN | apply Kd.R_drew)); exact HO_193001.out) hb); have n1_ := Aside0.mk (Kd.R_below (by (with_reducible repeat (first | apply Kd.R_alloc | apply Kd.R_drewN | apply Kd.R_drew)); exact HO_198001.out) hb); have n2_ := Aside0.mk (Kd.R_below (by (with_reducible repeat (first | apply Kd.R_alloc | apply Kd.R_drewN | apply Kd.R_drew)); exact HO_204001.out) hb); have n3_ := sqb BK181 hb; have n4_ := sqb BK192 hb; have n5_ := sqb BK197 hb; have n6_ := sqb BK203 hb; have n7_ := sqs HB hb; clear HO_193001; clear HO_198001; clear HO_204001; clear BK181; clear BK192; clear BK197; clear BK203; clear HB; have HO_193001 := n0_; have HO_198001 := n1_; have HO_204001 := n2_; have BK181 := n3_; have BK192 := n4_; have BK197 := n5_; have BK203 := n6_; have HB := n7_; clear n0_ n1_ n2_ n3_ n4_ n5_ n6_ n7_; (try clear hb)))
                      go_ret
                      exact sqe HB
          · replace c58 := Bool.eq_false_iff.mpr c58
            subst c58
            have H1 : (some false) = some r := by rw [if_neg (show ¬ (false = true) by decide)] at H; exact H
            clear H
            have H := H1
            clear H1
            obtain rfl := Option.some.inj H
            try go_wp2
            replace HO_193001 := Aside0.mk (Kd.R_drew HO_193001.out)
            replace HO_198001 := Aside0.mk (Kd.R_drew HO_198001.out)
            replace HO_204001 := Aside0.mk (Kd.R_drew HO_204001.out)
            replace BK181 := Aside0.mk (blk_drew BK181.out)
            replace BK192 := Aside0.mk (blk_drew BK192.out)
            replace BK197 := Aside0.mk (blk_drew BK197.out)
            replace BK203 := Aside0.mk (blk_drew BK203.out)
            replace HB := Aside0.mk (below_drew1 HB.out)
            refine start_ (n := 5) (S := fun w' => w'.cell? ⟨gb197, 0, none⟩ = some (.int .i64 t193) ∧ w'.cell? ⟨gb197, 1, none⟩ = some (.slice Ao29 t194.length co29) ∧ w'.cell? ⟨gb181, 0, none⟩ = some (.int .i64 a0_0) ∧ w'.cell? ⟨gb181, 1, none⟩ = some (.slice A0_1 l0_1.length c0_1)) (ds := []) #[false, false, false, false, false] (by kernel_rfl) rfl rfl ⟨(blk_cell BK197.out 0).trans rfl, (blk_cell BK197.out 1).trans rfl, (blk_cell BK181.out 0).trans rfl, (blk_cell BK181.out 1).trans rfl⟩ (fun hHeld => ?_)
            generalize wc.drew = w175 at HO_193001 HO_198001 HO_204001 BK181 BK192 BK197 BK203 HB hHeld ⊢
            refine take_ (i := 0) (N := some 41) (v := ?_) (a' := ?_) #[true, false, false, false, false] rfl rfl (by kernel_rfl) (fun _ _ _ h => h) (Or.inl ⟨by rfl, ?_⟩) hHeld ?_ ?_
            rotate_left
            · rintro w' ⟨s0, s1, s2, s3⟩
              go_simp
              with_reducible rfl
            rotate_left
            · simp only [Act.put, List.setIfInBounds_toArray, List.set_cons_zero, List.set_cons_succ, i64_w, i32_w]
              rfl
            refine take_ (i := 1) (N := some 42) (v := ?_) (a' := ?_) #[true, true, false, false, false] rfl rfl (by kernel_rfl) (fun _ _ _ h => h) (Or.inl ⟨by rfl, ?_⟩) hHeld ?_ ?_
            rotate_left
            · rintro w' ⟨s0, s1, s2, s3⟩
              go_simp
              with_reducible rfl
            rotate_left
            · simp only [Act.put, List.setIfInBounds_toArray, List.set_cons_zero, List.set_cons_succ, i64_w, i32_w]
              rfl
            refine one_ (i := 2) (N := some 43) #[true, true, true, false, false] rfl rfl (by kernel_rfl) (by decide) (fun K hK => ?_)
            refine sqG Try.func16 #[.agg #[.int .i64 a0_0, .slice A0_1 l0_1.length c0_1]] ?_
            with_reducible refine (laws_toGaps.calls kj10 a0_0 _ _ l0_1 t205 t206 _ ?side1 ?side2 A56.out).mono ?_
            (case side1 => repeat (first | exact (Kd.C_below HR0_1.out HB.out) | (with_reducible refine Kd.C_alloc ?_ _) | (with_reducible refine Kd.C_drewN ?_ _) | (with_reducible refine Kd.C_drew ?_)))
            (case side2 => exact HC0_1.out)
            rintro e w176 ⟨v207, rfl, ho0, hb⟩
            refine ⟨_, rfl, ?_⟩
            have n0_ := Aside0.mk (Kd.R_elder' (by (with_reducible repeat (first | apply Kd.R_alloc | apply Kd.R_drewN | apply Kd.R_drew)); exact HO_193001.out) (Kd.R_base ho0) hb)
            have n1_ := Aside0.mk (Kd.R_elder' (by (with_reducible repeat (first | apply Kd.R_alloc | apply Kd.R_drewN | apply Kd.R_drew)); exact HO_198001.out) (Kd.R_base ho0) hb)
            have n2_ := Aside0.mk (Kd.R_elder' (by (with_reducible repeat (first | apply Kd.R_alloc | apply Kd.R_drewN | apply Kd.R_drew)); exact HO_204001.out) (Kd.R_base ho0) hb)
            have n3_ := Aside0.mk (Kd.R_lower (Kd.R_new' (Kd.R_new' (Kd.R_new' ho0 (Kd.R_lt (by (with_reducible repeat (first | apply Kd.R_alloc | apply Kd.R_drewN | apply Kd.R_drew)); exact HO_193001.out))) (Kd.R_lt (by (with_reducible repeat (first | apply Kd.R_alloc | apply Kd.R_drewN | apply Kd.R_drew)); exact HO_198001.out))) (Kd.R_lt (by (with_reducible repeat (first | apply Kd.R_alloc | apply Kd.R_drewN | apply Kd.R_drew)); exact HO_204001.out))) (below_size (by repeat (first | (with_reducible first | exact HB.out | apply below_alloc | apply pw_below_drewN | apply below_drew1 | refine below_set ?_ GE181.out | refine below_set ?_ GE192.out | refine below_set ?_ GE197.out | refine below_set ?_ GE203.out) | exact HB.out))))
            have n4_ := sqb BK181 hb
            have n5_ := sqb BK192 hb
            have n6_ := sqb BK197 hb
            have n7_ := sqb BK203 hb
            have n8_ := sqs HB hb
            clear HO_193001
            clear HO_198001
            clear HO_204001
            clear BK181
            clear BK192
            clear BK197
            clear BK203
            clear HB
            have HO_193001 := n0_
            have HO_198001 := n1_
            have HO_204001 := n2_
            have HO208 := n3_
            have BK181 := n4_
            have BK192 := n5_
            have BK197 := n6_
            have BK203 := n7_
            have HB := n8_
            clear n0_ n1_ n2_ n3_ n4_ n5_ n6_ n7_ n8_
            (try clear hb)
            (try clear hb2)
            (try clear hk)
            (try clear hi)
            (try clear ho0)
            obtain ⟨Ao177, co177, eo177⟩ := Kd.R_slice HO208.out
            (first | subst eo177 | (injection eo177 with f1_ f2_ f3_; have f4_ := f1_.symm; have f5_ := f3_.symm; clear f1_ f2_ f3_; subst f4_; subst f5_))
            refine hK.out _ _ sqz (fun hHeld => ?_)
            clear hK K
            refine sqnm ?_
            refine one_ (i := 3) (N := some 44) #[true, true, true, true, false] rfl rfl (by kernel_rfl) (by decide) (fun K hK => ?_)
            refine sqG Try.func19 #[.agg #[.int .i64 t193, .slice Ao29 t194.length co29], .agg #[.int .i64 t205, .slice Ao177 t206.length co177]] ?_
            with_reducible refine (laws_eqGaps.calls kj10 t193 _ _ t194 t205 _ _ t206 false _ ?side1 ?side2 ?side3 ?side4 A57.out).mono ?_
            (case side1 => repeat (first | exact (Kd.R_reads' HO_198001.out).2.2 | (with_reducible refine Kd.C_alloc ?_ _) | (with_reducible refine Kd.C_drewN ?_ _) | (with_reducible refine Kd.C_drew ?_)))
            (case side2 => exact (Kd.R_reads' HO_198001.out).2.1)
            (case side3 => repeat (first | exact (Kd.R_reads' HO208.out).2.2 | (with_reducible refine Kd.C_alloc ?_ _) | (with_reducible refine Kd.C_drewN ?_ _) | (with_reducible refine Kd.C_drew ?_)))
            (case side4 => exact (Kd.R_reads' HO208.out).2.1)
            rintro e w178 ⟨rfl, hb⟩
            refine ⟨_, rfl, ?_⟩
            have n0_ := Aside0.mk (Kd.R_below (by (with_reducible repeat (first | apply Kd.R_alloc | apply Kd.R_drewN | apply Kd.R_drew)); exact HO_193001.out) hb)
            have n1_ := Aside0.mk (Kd.R_below (by (with_reducible repeat (first | apply Kd.R_alloc | apply Kd.R_drewN | apply Kd.R_drew)); exact HO_198001.out) hb)
            have n2_ := Aside0.mk (Kd.R_below (by (with_reducible repeat (first | apply Kd.R_alloc | apply Kd.R_drewN | apply Kd.R_drew)); exact HO_204001.out) hb)
            have n3_ := Aside0.mk (Kd.R_below (by (with_reducible repeat (first | apply Kd.R_alloc | apply Kd.R_drewN | apply Kd.R_drew)); exact HO208.out) hb)
            have n4_ := sqb BK181 hb
            have n5_ := sqb BK192 hb
            have n6_ := sqb BK197 hb
            have n7_ := sqb BK203 hb
            have n8_ := sqs HB hb
            clear HO_193001
            clear HO_198001
            clear HO_204001
            clear HO208
            clear BK181
            clear BK192
            clear BK197
            clear BK203
            clear HB
            have HO_193001 := n0_
            have HO_198001 := n1_
            have HO_204001 := n2_
            have HO208 := n3_
            have BK181 := n4_
            have BK192 := n5_
            have BK197 := n6_
            have BK203 := n7_
            have HB := n8_
            clear n0_ n1_ n2_ n3_ n4_ n5_ n6_ n7_ n8_
            (try clear hb)
            refine hK.out _ _ sqz (fun hHeld => ?_)
            clear hK K
            refine sqnm ?_
            refine pure_ (i := 4) (N := some 45) (v := ?_) (a' := ?_) #[true, true, true, true, true] rfl rfl (by kernel_rfl) (fun _ _ _ h => h) (Or.inl ⟨by rfl, ?_⟩) ?_ ?_
            rotate_left
            · intro w'
              go_simp
              with_reducible rfl
            rotate_left
            · simp only [Act.put, List.setIfInBounds_toArray, List.set_cons_zero, List.set_cons_succ, i64_w, i32_w]
              rfl
            refine done_ (by kernel_rfl) ?_
            try go_wp2
            go_ret
            exact sqe HB

end Go.Proofs.Ytmdcgkkkfncieaa.PFnExactGapsClose
