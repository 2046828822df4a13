/- Functions of the program as plain Lean functions, and that calls of them come to what these tell. Conditions: those in each law. -/
import Derived.Test.YtmdcgkkkfncieaaSq
import Derived.Test.YtmdcgkkkfncieaaDFnExactGapsWiden
import Derived.Test.YtmdcgkkkfncieaaQFnExactGapsWidenx0
import Derived.Test.YtmdcgkkkfncieaaQFnExactGapsWidenx1
import Derived.Test.YtmdcgkkkfncieaaQFnExactGapsWidenx2
import Derived.Test.YtmdcgkkkfncieaaQFnExactGapsWidenx4
namespace Go.Proofs.Ytmdcgkkkfncieaa.PFnExactGapsWiden
open Go.RowKit Go.Proofs.Ytmdcgkkkfncieaa.Sq Go.Proofs.YtmdcgkkkfncieaaW.PrintWords Go.Proofs.YtmdcgkkkfncieaaW.PrintLast Go.Proofs.YtmdcgkkkfncieaaW.PrintMore
attribute [local go_sem] max2_int min2_int max_two min_two max_three min_three max_four min_four   -- for this text's walks alone
set_option linter.unusedVariables false
set_option linter.unusedSimpArgs false

/-! ### laws_FnExactGapsWiden: function 4 -/
theorem laws_FnExactGapsWiden.mono_l : ∀ k, (∀ y0 y1 y2 y3 y4 y5 y6 y7 y8, LeO (laws_FnExactGapsWiden.j0 k y0 y1 y2 y3 y4 y5 y6 y7 y8) (laws_FnExactGapsWiden.j0 (k + 1) y0 y1 y2 y3 y4 y5 y6 y7 y8))
  | 0 => fun _ _ _ _ _ _ _ _ _ r h => by simp [laws_FnExactGapsWiden.j0] at h
  | k + 1 => by
    have ih0 := laws_FnExactGapsWiden.mono_l k
    · intro y0 y1 y2 y3 y4 y5 y6 y7 y8
      unfold laws_FnExactGapsWiden.j0
      repeat' first
      | (with_reducible exact ih0 _ _ _ _ _ _ _ _ _)
      | (with_reducible exact impl_GapsWiden.mono _ _ _ _ _)
      | (with_reducible exact laws_eqGaps.mono _ _ _ _ _)
      | (with_reducible exact laws_heldGaps.mono _ _ _ _)
      | (with_reducible exact laws_markGaps.mono _ _ _ _)
      | (with_reducible exact laws_toGaps.mono _ _ _)
      | (with_reducible exact spec_GapsWiden.mono _ _ _ _ _)
      | (with_reducible exact LeO.refl _)
      | (with_reducible exact LeO.none _)
      | (with_reducible refine LeO.ite ?_ ?_)
      | (with_reducible refine LeO.bind ?_ (fun _ => ?_))
      | exact ih0 _ _ _ _ _ _ _ _ _
      | exact impl_GapsWiden.mono _ _ _ _ _
      | exact laws_eqGaps.mono _ _ _ _ _
      | exact laws_heldGaps.mono _ _ _ _
      | exact laws_markGaps.mono _ _ _ _
      | exact laws_toGaps.mono _ _ _
      | exact spec_GapsWiden.mono _ _ _ _ _
      | exact LeO.none _
      | refine LeO.ite ?_ ?_
      | refine LeO.bind ?_ (fun _ => ?_)
theorem laws_FnExactGapsWiden.mono : ∀ a0 a1 a2 a3 k, LeO (laws_FnExactGapsWiden.f k a0 a1 a2 a3) (laws_FnExactGapsWiden.f (k + 1) a0 a1 a2 a3) := by
  intro a0 a1 a2 a3 k
  have ih0 := laws_FnExactGapsWiden.mono_l k
  unfold laws_FnExactGapsWiden.f
  repeat' first
      | (with_reducible exact ih0 _ _ _ _ _ _ _ _ _)
      | (with_reducible exact impl_GapsWiden.mono _ _ _ _ _)
      | (with_reducible exact laws_eqGaps.mono _ _ _ _ _)
      | (with_reducible exact laws_heldGaps.mono _ _ _ _)
      | (with_reducible exact laws_markGaps.mono _ _ _ _)
      | (with_reducible exact laws_toGaps.mono _ _ _)
      | (with_reducible exact spec_GapsWiden.mono _ _ _ _ _)
      | (with_reducible exact LeO.refl _)
      | (with_reducible exact LeO.none _)
      | (with_reducible refine LeO.ite ?_ ?_)
      | (with_reducible refine LeO.bind ?_ (fun _ => ?_))
      | exact ih0 _ _ _ _ _ _ _ _ _
      | exact impl_GapsWiden.mono _ _ _ _ _
      | exact laws_eqGaps.mono _ _ _ _ _
      | exact laws_heldGaps.mono _ _ _ _
      | exact laws_markGaps.mono _ _ _ _
      | exact laws_toGaps.mono _ _ _
      | exact spec_GapsWiden.mono _ _ _ _ _
      | exact LeO.none _
      | refine LeO.ite ?_ ?_
      | refine LeO.bind ?_ (fun _ => ?_)
set_option maxHeartbeats 8000000 in
set_option maxRecDepth 100000 in
theorem laws_FnExactGapsWiden.calls (k : Nat) (a0_0 : Int) (A0_1 : Option Addr) (c0_1 : Nat) (l0_1 : List Int) (a1_0 : Int) (A1_1 : Option Addr) (c1_1 : Nat) (l1_1 : List Int) (r : Bool) (w : World) (hr0_1 : Kd.C (Kd.int .i64) w A0_1 l0_1.length l0_1) (hc0_1 : l0_1.length ≤ c0_1) (hr1_1 : Kd.C (Kd.int .i64) w A1_1 l1_1.length l1_1) (hc1_1 : l1_1.length ≤ c1_1) (h : laws_FnExactGapsWiden.f k a0_0 l0_1 a1_0 l1_1 = some r) (hr_ : r = true := by rfl) :
    Calls Try.prog 4 #[.agg #[.int .i64 a0_0, .slice A0_1 l0_1.length c0_1], .agg #[.int .i64 a1_0, .slice A1_1 l1_1.length c1_1]] w fun e w' => e = .returned (.bool r) ∧ Below w.heap.size w w' := by
  subst hr_
  have hu24 := Try.underlying24
  have hu29 := Try.underlying29
  have HR0_1 := Aside0.mk hr0_1
  have HC0_1 := Aside0.mk hc0_1
  clear hr0_1 hc0_1
  have HR1_1 := Aside0.mk hr1_1
  have HC1_1 := Aside0.mk hc1_1
  clear hr1_1 hc1_1
  have HB := Aside0.mk (Below.refl w.heap.size w)
  have H : ((laws_szGaps.f a0_0 l0_1 1048576).bind fun t174 => (if t174 < 0 then (some true) else ((laws_szGaps.f a1_0 l1_1 t174).bind fun t175 => (if t175 < 0 then (some true) else ((laws_toGaps.f k a0_0 l0_1).bind fun bt176 => ((laws_toGaps.f k a1_0 l1_1).bind fun bt180 => ((spec_GapsWiden.f k bt176.1 bt176.2 bt180.1 bt180.2).bind fun bt184 => ((laws_toGaps.f k a0_0 l0_1).bind fun bt189 => ((laws_toGaps.f k a1_0 l1_1).bind fun bt194 => ((impl_GapsWiden.f k bt189.1 bt189.2 bt194.1 bt194.2).bind fun bt199 => ((laws_eqGaps.f k bt199.1 bt199.2 bt184.1 bt184.2).bind fun t204 => (if t204 = true then ((laws_toGaps.f k a0_0 l0_1).bind fun bt205 => ((laws_eqGaps.f k bt189.1 bt189.2 bt205.1 bt205.2).bind fun t209 => (if t209 = true then ((laws_toGaps.f k a1_0 l1_1).bind fun bt210 => ((laws_eqGaps.f k bt194.1 bt194.2 bt210.1 bt210.2).bind fun t214 => (if t214 = true then ((laws_markGaps.f k bt189.1 bt189.2 1).bind fun bt215 => ((laws_markGaps.f k bt194.1 bt194.2 bt215.1).bind fun bt217 => (if bt217.1 < 0 then (laws_FnExactGapsWiden.j0 k true a0_0 l0_1 a1_0 l1_1 bt184.1 bt184.2 bt199.1 bt199.2) else ((laws_eqGaps.f k bt199.1 bt199.2 bt184.1 bt184.2).bind fun t219 => (laws_FnExactGapsWiden.j0 k (!t219) a0_0 l0_1 a1_0 l1_1 bt184.1 bt184.2 bt199.1 bt199.2))))) else (some false)))) else (some false)))) else (some false))))))))))))) = some true := h
  clear h
  replace H := Option.bind_eq_some_iff.mp H
  obtain ⟨t174, A30, H⟩ := H
  replace H : (if t174 < 0 then (some true) else ((laws_szGaps.f a1_0 l1_1 t174).bind fun t175 => (if t175 < 0 then (some true) else ((laws_toGaps.f k a0_0 l0_1).bind fun bt176 => ((laws_toGaps.f k a1_0 l1_1).bind fun bt180 => ((spec_GapsWiden.f k bt176.1 bt176.2 bt180.1 bt180.2).bind fun bt184 => ((laws_toGaps.f k a0_0 l0_1).bind fun bt189 => ((laws_toGaps.f k a1_0 l1_1).bind fun bt194 => ((impl_GapsWiden.f k bt189.1 bt189.2 bt194.1 bt194.2).bind fun bt199 => ((laws_eqGaps.f k bt199.1 bt199.2 bt184.1 bt184.2).bind fun t204 => (if t204 = true then ((laws_toGaps.f k a0_0 l0_1).bind fun bt205 => ((laws_eqGaps.f k bt189.1 bt189.2 bt205.1 bt205.2).bind fun t209 => (if t209 = true then ((laws_toGaps.f k a1_0 l1_1).bind fun bt210 => ((laws_eqGaps.f k bt194.1 bt194.2 bt210.1 bt210.2).bind fun t214 => (if t214 = true then ((laws_markGaps.f k bt189.1 bt189.2 1).bind fun bt215 => ((laws_markGaps.f k bt194.1 bt194.2 bt215.1).bind fun bt217 => (if bt217.1 < 0 then (laws_FnExactGapsWiden.j0 k true a0_0 l0_1 a1_0 l1_1 bt184.1 bt184.2 bt199.1 bt199.2) else ((laws_eqGaps.f k bt199.1 bt199.2 bt184.1 bt184.2).bind fun t219 => (laws_FnExactGapsWiden.j0 k (!t219) a0_0 l0_1 a1_0 l1_1 bt184.1 bt184.2 bt199.1 bt199.2))))) else (some false)))) else (some false)))) else (some false)))))))))))) = some true := H
  have A3 := Aside0.mk A30
  clear A30
  by_cases c4 : t174 < 0
  · rw [if_pos c4] at H
    have c4b0 : decide (t174 < 0) = true := decide_eq_true c4
    clear c4
    clear H
    go_enter Try.func4, Try.ntmps4
    go_wp2_with (first | ((with_reducible refine gate_dst (N := 2) rfl ?_); refine sqx 2 #[.int .i64 a0_0, .slice A0_1 l0_1.length c0_1] 24 ?_; intro gb172 hg w5 hbox hb; have BK172 := Aside0.mk (hbox); have GW172 := sqg HB hg; have GE172 := sqg HB hg; replace HB := sqs HB hb; clear hb hbox hg) | ((with_reducible refine gate_dst (N := 3) rfl ?_); refine sqx 3 #[.int .i64 a1_0, .slice A1_1 l1_1.length c1_1] 24 ?_; intro gb173 hg w6 hbox hb; have BK173 := Aside0.mk (hbox); have GW173 := sqg HB hg; have GE173 := sqg HB hg; have NB172_173 := sqn BK172 hg; have NB173_172 := sqm BK172 hg; replace BK172 := sqb BK172 hb; replace HB := sqs HB hb; clear hb hbox hg; have hnb7 := NB172_173.out; have hnc7 := NB173_172.out; obtain ⟨hcz8_0, hcz8_1, hfz8_0, hfz8_1⟩ := sqc2 BK172) | ((with_reducible refine gate_callee (f := 14) rfl ?_); refine sqL (some 16) Try.func14 #[.agg #[.int .i64 a0_0, .slice A0_1 l0_1.length c0_1], .int .i64 1048576] ?_; (with_reducible refine (laws_szGaps.calls a0_0 _ _ l0_1 1048576 t174 _ ?side1 ?side2 A3.out).mono ?_); (case side1 => repeat (first | exact (Kd.C_below HR0_1.out HB.out) | (with_reducible refine Kd.C_alloc ?_ _) | (with_reducible refine Kd.C_drewN ?_ _) | (with_reducible refine Kd.C_drew ?_))); (case side2 => exact HC0_1.out); rintro e w9 ⟨rfl, hb⟩; refine ⟨_, rfl, ?_⟩; replace BK172 := sqb BK172 hb; replace BK173 := sqb BK173 hb; replace HB := sqs HB hb; (try clear hb)))
    go_ret
    exact sqe HB
  · rw [if_neg c4] at H
    have c4b0 : decide (t174 < 0) = false := decide_eq_false c4
    clear c4
    replace H := Option.bind_eq_some_iff.mp H
    obtain ⟨t175, A100, H⟩ := H
    replace H : (if t175 < 0 then (some true) else ((laws_toGaps.f k a0_0 l0_1).bind fun bt176 => ((laws_toGaps.f k a1_0 l1_1).bind fun bt180 => ((spec_GapsWiden.f k bt176.1 bt176.2 bt180.1 bt180.2).bind fun bt184 => ((laws_toGaps.f k a0_0 l0_1).bind fun bt189 => ((laws_toGaps.f k a1_0 l1_1).bind fun bt194 => ((impl_GapsWiden.f k bt189.1 bt189.2 bt194.1 bt194.2).bind fun bt199 => ((laws_eqGaps.f k bt199.1 bt199.2 bt184.1 bt184.2).bind fun t204 => (if t204 = true then ((laws_toGaps.f k a0_0 l0_1).bind fun bt205 => ((laws_eqGaps.f k bt189.1 bt189.2 bt205.1 bt205.2).bind fun t209 => (if t209 = true then ((laws_toGaps.f k a1_0 l1_1).bind fun bt210 => ((laws_eqGaps.f k bt194.1 bt194.2 bt210.1 bt210.2).bind fun t214 => (if t214 = true then ((laws_markGaps.f k bt189.1 bt189.2 1).bind fun bt215 => ((laws_markGaps.f k bt194.1 bt194.2 bt215.1).bind fun bt217 => (if bt217.1 < 0 then (laws_FnExactGapsWiden.j0 k true a0_0 l0_1 a1_0 l1_1 bt184.1 bt184.2 bt199.1 bt199.2) else ((laws_eqGaps.f k bt199.1 bt199.2 bt184.1 bt184.2).bind fun t219 => (laws_FnExactGapsWiden.j0 k (!t219) a0_0 l0_1 a1_0 l1_1 bt184.1 bt184.2 bt199.1 bt199.2))))) else (some false)))) else (some false)))) else (some false)))))))))) = some true := H
    have A10 := Aside0.mk A100
    clear A100
    by_cases c11 : t175 < 0
    · rw [if_pos c11] at H
      have c11b0 : decide (t175 < 0) = true := decide_eq_true c11
      clear c11
      clear H
      go_enter Try.func4, Try.ntmps4
      go_wp2_with (first | ((with_reducible refine gate_dst (N := 2) rfl ?_); refine sqx 2 #[.int .i64 a0_0, .slice A0_1 l0_1.length c0_1] 24 ?_; intro gb172 hg w12 hbox hb; have BK172 := Aside0.mk (hbox); have GW172 := sqg HB hg; have GE172 := sqg HB hg; replace HB := sqs HB hb; clear hb hbox hg) | ((with_reducible refine gate_dst (N := 3) rfl ?_); refine sqx 3 #[.int .i64 a1_0, .slice A1_1 l1_1.length c1_1] 24 ?_; intro gb173 hg w13 hbox hb; have BK173 := Aside0.mk (hbox); have GW173 := sqg HB hg; have GE173 := sqg HB hg; have NB172_173 := sqn BK172 hg; have NB173_172 := sqm BK172 hg; replace BK172 := sqb BK172 hb; replace HB := sqs HB hb; clear hb hbox hg; have hnb14 := NB172_173.out; have hnc14 := NB173_172.out; obtain ⟨hcz15_0, hcz15_1, hfz15_0, hfz15_1⟩ := sqc2 BK172) | ((with_reducible refine gate_callee (f := 14) rfl ?_); refine sqL (some 16) Try.func14 #[.agg #[.int .i64 a0_0, .slice A0_1 l0_1.length c0_1], .int .i64 1048576] ?_; (with_reducible refine (laws_szGaps.calls a0_0 _ _ l0_1 1048576 t174 _ ?side1 ?side2 A3.out).mono ?_); (case side1 => repeat (first | exact (Kd.C_below HR0_1.out HB.out) | (with_reducible refine Kd.C_alloc ?_ _) | (with_reducible refine Kd.C_drewN ?_ _) | (with_reducible refine Kd.C_drew ?_))); (case side2 => exact HC0_1.out); rintro e w16 ⟨rfl, hb⟩; refine ⟨_, rfl, ?_⟩; replace BK172 := sqb BK172 hb; replace BK173 := sqb BK173 hb; replace HB := sqs HB hb; (try clear hb); obtain ⟨hcz17_0, hcz17_1, hfz17_0, hfz17_1⟩ := sqc2 BK173) | ((with_reducible refine gate_callee (f := 14) rfl ?_); refine sqL (some 21) Try.func14 #[.agg #[.int .i64 a1_0, .slice A1_1 l1_1.length c1_1], .int .i64 t174] ?_; (with_reducible refine (laws_szGaps.calls a1_0 _ _ l1_1 t174 t175 _ ?side1 ?side2 A10.out).mono ?_); (case side1 => repeat (first | exact (Kd.C_below HR1_1.out HB.out) | (with_reducible refine Kd.C_alloc ?_ _) | (with_reducible refine Kd.C_drewN ?_ _) | (with_reducible refine Kd.C_drew ?_))); (case side2 => exact HC1_1.out); rintro e w18 ⟨rfl, hb⟩; refine ⟨_, rfl, ?_⟩; replace BK172 := sqb BK172 hb; replace BK173 := sqb BK173 hb; replace HB := sqs HB hb; (try clear hb)))
      go_ret
      exact sqe HB
    · rw [if_neg c11] at H
      have c11b0 : decide (t175 < 0) = false := decide_eq_false c11
      clear c11
      replace H := Option.bind_eq_some_iff.mp H
      obtain ⟨⟨t176, t177⟩, A190, H⟩ := H
      replace H : ((laws_toGaps.f k a1_0 l1_1).bind fun bt180 => ((spec_GapsWiden.f k t176 t177 bt180.1 bt180.2).bind fun bt184 => ((laws_toGaps.f k a0_0 l0_1).bind fun bt189 => ((laws_toGaps.f k a1_0 l1_1).bind fun bt194 => ((impl_GapsWiden.f k bt189.1 bt189.2 bt194.1 bt194.2).bind fun bt199 => ((laws_eqGaps.f k bt199.1 bt199.2 bt184.1 bt184.2).bind fun t204 => (if t204 = true then ((laws_toGaps.f k a0_0 l0_1).bind fun bt205 => ((laws_eqGaps.f k bt189.1 bt189.2 bt205.1 bt205.2).bind fun t209 => (if t209 = true then ((laws_toGaps.f k a1_0 l1_1).bind fun bt210 => ((laws_eqGaps.f k bt194.1 bt194.2 bt210.1 bt210.2).bind fun t214 => (if t214 = true then ((laws_markGaps.f k bt189.1 bt189.2 1).bind fun bt215 => ((laws_markGaps.f k bt194.1 bt194.2 bt215.1).bind fun bt217 => (if bt217.1 < 0 then (laws_FnExactGapsWiden.j0 k true a0_0 l0_1 a1_0 l1_1 bt184.1 bt184.2 bt199.1 bt199.2) else ((laws_eqGaps.f k bt199.1 bt199.2 bt184.1 bt184.2).bind fun t219 => (laws_FnExactGapsWiden.j0 k (!t219) a0_0 l0_1 a1_0 l1_1 bt184.1 bt184.2 bt199.1 bt199.2))))) else (some false)))) else (some false)))) else (some false)))))))) = some true := H
      have A19 := Aside0.mk A190
      clear A190
      replace H := Option.bind_eq_some_iff.mp H
      obtain ⟨⟨t180, t181⟩, A200, H⟩ := H
      replace H : ((spec_GapsWiden.f k t176 t177 t180 t181).bind fun bt184 => ((laws_toGaps.f k a0_0 l0_1).bind fun bt189 => ((laws_toGaps.f k a1_0 l1_1).bind fun bt194 => ((impl_GapsWiden.f k bt189.1 bt189.2 bt194.1 bt194.2).bind fun bt199 => ((laws_eqGaps.f k bt199.1 bt199.2 bt184.1 bt184.2).bind fun t204 => (if t204 = true then ((laws_toGaps.f k a0_0 l0_1).bind fun bt205 => ((laws_eqGaps.f k bt189.1 bt189.2 bt205.1 bt205.2).bind fun t209 => (if t209 = true then ((laws_toGaps.f k a1_0 l1_1).bind fun bt210 => ((laws_eqGaps.f k bt194.1 bt194.2 bt210.1 bt210.2).bind fun t214 => (if t214 = true then ((laws_markGaps.f k bt189.1 bt189.2 1).bind fun bt215 => ((laws_markGaps.f k bt194.1 bt194.2 bt215.1).bind fun bt217 => (if bt217.1 < 0 then (laws_FnExactGapsWiden.j0 k true a0_0 l0_1 a1_0 l1_1 bt184.1 bt184.2 bt199.1 bt199.2) else ((laws_eqGaps.f k bt199.1 bt199.2 bt184.1 bt184.2).bind fun t219 => (laws_FnExactGapsWiden.j0 k (!t219) a0_0 l0_1 a1_0 l1_1 bt184.1 bt184.2 bt199.1 bt199.2))))) else (some false)))) else (some false)))) else (some false))))))) = some true := H
      have A20 := Aside0.mk A200
      clear A200
      replace H := Option.bind_eq_some_iff.mp H
      obtain ⟨⟨t184, t185⟩, A210, H⟩ := H
      replace H : ((laws_toGaps.f k a0_0 l0_1).bind fun bt189 => ((laws_toGaps.f k a1_0 l1_1).bind fun bt194 => ((impl_GapsWiden.f k bt189.1 bt189.2 bt194.1 bt194.2).bind fun bt199 => ((laws_eqGaps.f k bt199.1 bt199.2 t184 t185).bind fun t204 => (if t204 = true then ((laws_toGaps.f k a0_0 l0_1).bind fun bt205 => ((laws_eqGaps.f k bt189.1 bt189.2 bt205.1 bt205.2).bind fun t209 => (if t209 = true then ((laws_toGaps.f k a1_0 l1_1).bind fun bt210 => ((laws_eqGaps.f k bt194.1 bt194.2 bt210.1 bt210.2).bind fun t214 => (if t214 = true then ((laws_markGaps.f k bt189.1 bt189.2 1).bind fun bt215 => ((laws_markGaps.f k bt194.1 bt194.2 bt215.1).bind fun bt217 => (if bt217.1 < 0 then (laws_FnExactGapsWiden.j0 k true a0_0 l0_1 a1_0 l1_1 t184 t185 bt199.1 bt199.2) else ((laws_eqGaps.f k bt199.1 bt199.2 t184 t185).bind fun t219 => (laws_FnExactGapsWiden.j0 k (!t219) a0_0 l0_1 a1_0 l1_1 t184 t185 bt199.1 bt199.2))))) else (some false)))) else (some false)))) else (some false)))))) = some true := H
      have A21 := Aside0.mk A210
      clear A210
      replace H := Option.bind_eq_some_iff.mp H
      obtain ⟨⟨t189, t190⟩, A220, H⟩ := H
      replace H : ((laws_toGaps.f k a1_0 l1_1).bind fun bt194 => ((impl_GapsWiden.f k t189 t190 bt194.1 bt194.2).bind fun bt199 => ((laws_eqGaps.f k bt199.1 bt199.2 t184 t185).bind fun t204 => (if t204 = true then ((laws_toGaps.f k a0_0 l0_1).bind fun bt205 => ((laws_eqGaps.f k t189 t190 bt205.1 bt205.2).bind fun t209 => (if t209 = true then ((laws_toGaps.f k a1_0 l1_1).bind fun bt210 => ((laws_eqGaps.f k bt194.1 bt194.2 bt210.1 bt210.2).bind fun t214 => (if t214 = true then ((laws_markGaps.f k t189 t190 1).bind fun bt215 => ((laws_markGaps.f k bt194.1 bt194.2 bt215.1).bind fun bt217 => (if bt217.1 < 0 then (laws_FnExactGapsWiden.j0 k true a0_0 l0_1 a1_0 l1_1 t184 t185 bt199.1 bt199.2) else ((laws_eqGaps.f k bt199.1 bt199.2 t184 t185).bind fun t219 => (laws_FnExactGapsWiden.j0 k (!t219) a0_0 l0_1 a1_0 l1_1 t184 t185 bt199.1 bt199.2))))) else (some false)))) else (some false)))) else (some false))))) = some true := H
      have A22 := Aside0.mk A220
      clear A220
      replace H := Option.bind_eq_some_iff.mp H
      obtain ⟨⟨t194, t195⟩, A230, H⟩ := H
      replace H : ((impl_GapsWiden.f k t189 t190 t194 t195).bind fun bt199 => ((laws_eqGaps.f k bt199.1 bt199.2 t184 t185).bind fun t204 => (if t204 = true then ((laws_toGaps.f k a0_0 l0_1).bind fun bt205 => ((laws_eqGaps.f k t189 t190 bt205.1 bt205.2).bind fun t209 => (if t209 = true then ((laws_toGaps.f k a1_0 l1_1).bind fun bt210 => ((laws_eqGaps.f k t194 t195 bt210.1 bt210.2).bind fun t214 => (if t214 = true then ((laws_markGaps.f k t189 t190 1).bind fun bt215 => ((laws_markGaps.f k t194 t195 bt215.1).bind fun bt217 => (if bt217.1 < 0 then (laws_FnExactGapsWiden.j0 k true a0_0 l0_1 a1_0 l1_1 t184 t185 bt199.1 bt199.2) else ((laws_eqGaps.f k bt199.1 bt199.2 t184 t185).bind fun t219 => (laws_FnExactGapsWiden.j0 k (!t219) a0_0 l0_1 a1_0 l1_1 t184 t185 bt199.1 bt199.2))))) else (some false)))) else (some false)))) else (some false)))) = some true := H
      have A23 := Aside0.mk A230
      clear A230
      replace H := Option.bind_eq_some_iff.mp H
      obtain ⟨⟨t199, t200⟩, A240, H⟩ := H
      replace H : ((laws_eqGaps.f k t199 t200 t184 t185).bind fun t204 => (if t204 = true then ((laws_toGaps.f k a0_0 l0_1).bind fun bt205 => ((laws_eqGaps.f k t189 t190 bt205.1 bt205.2).bind fun t209 => (if t209 = true then ((laws_toGaps.f k a1_0 l1_1).bind fun bt210 => ((laws_eqGaps.f k t194 t195 bt210.1 bt210.2).bind fun t214 => (if t214 = true then ((laws_markGaps.f k t189 t190 1).bind fun bt215 => ((laws_markGaps.f k t194 t195 bt215.1).bind fun bt217 => (if bt217.1 < 0 then (laws_FnExactGapsWiden.j0 k true a0_0 l0_1 a1_0 l1_1 t184 t185 t199 t200) else ((laws_eqGaps.f k t199 t200 t184 t185).bind fun t219 => (laws_FnExactGapsWiden.j0 k (!t219) a0_0 l0_1 a1_0 l1_1 t184 t185 t199 t200))))) else (some false)))) else (some false)))) else (some false))) = some true := H
      have A24 := Aside0.mk A240
      clear A240
      replace H := Option.bind_eq_some_iff.mp H
      obtain ⟨t204, A250, H⟩ := H
      replace H : (if t204 = true then ((laws_toGaps.f k a0_0 l0_1).bind fun bt205 => ((laws_eqGaps.f k t189 t190 bt205.1 bt205.2).bind fun t209 => (if t209 = true then ((laws_toGaps.f k a1_0 l1_1).bind fun bt210 => ((laws_eqGaps.f k t194 t195 bt210.1 bt210.2).bind fun t214 => (if t214 = true then ((laws_markGaps.f k t189 t190 1).bind fun bt215 => ((laws_markGaps.f k t194 t195 bt215.1).bind fun bt217 => (if bt217.1 < 0 then (laws_FnExactGapsWiden.j0 k true a0_0 l0_1 a1_0 l1_1 t184 t185 t199 t200) else ((laws_eqGaps.f k t199 t200 t184 t185).bind fun t219 => (laws_FnExactGapsWiden.j0 k (!t219) a0_0 l0_1 a1_0 l1_1 t184 t185 t199 t200))))) else (some false)))) else (some false)))) else (some false)) = some true := H
      have A25 := Aside0.mk A250
      clear A250
      by_cases c26 : t204 = true
      · subst c26
        have H1 : ((laws_toGaps.f k a0_0 l0_1).bind fun bt205 => ((laws_eqGaps.f k t189 t190 bt205.1 bt205.2).bind fun t209 => (if t209 = true then ((laws_toGaps.f k a1_0 l1_1).bind fun bt210 => ((laws_eqGaps.f k t194 t195 bt210.1 bt210.2).bind fun t214 => (if t214 = true then ((laws_markGaps.f k t189 t190 1).bind fun bt215 => ((laws_markGaps.f k t194 t195 bt215.1).bind fun bt217 => (if bt217.1 < 0 then (laws_FnExactGapsWiden.j0 k true a0_0 l0_1 a1_0 l1_1 t184 t185 t199 t200) else ((laws_eqGaps.f k t199 t200 t184 t185).bind fun t219 => (laws_FnExactGapsWiden.j0 k (!t219) a0_0 l0_1 a1_0 l1_1 t184 t185 t199 t200))))) else (some false)))) else (some false)))) = some true := by rw [if_pos rfl] at H; exact H
        clear H
        have H := H1
        clear H1
        replace H := Option.bind_eq_some_iff.mp H
        obtain ⟨⟨t205, t206⟩, A270, H⟩ := H
        replace H : ((laws_eqGaps.f k t189 t190 t205 t206).bind fun t209 => (if t209 = true then ((laws_toGaps.f k a1_0 l1_1).bind fun bt210 => ((laws_eqGaps.f k t194 t195 bt210.1 bt210.2).bind fun t214 => (if t214 = true then ((laws_markGaps.f k t189 t190 1).bind fun bt215 => ((laws_markGaps.f k t194 t195 bt215.1).bind fun bt217 => (if bt217.1 < 0 then (laws_FnExactGapsWiden.j0 k true a0_0 l0_1 a1_0 l1_1 t184 t185 t199 t200) else ((laws_eqGaps.f k t199 t200 t184 t185).bind fun t219 => (laws_FnExactGapsWiden.j0 k (!t219) a0_0 l0_1 a1_0 l1_1 t184 t185 t199 t200))))) else (some false)))) else (some false))) = some true := H
        have A27 := Aside0.mk A270
        clear A270
        replace H := Option.bind_eq_some_iff.mp H
        obtain ⟨t209, A280, H⟩ := H
        replace H : (if t209 = true then ((laws_toGaps.f k a1_0 l1_1).bind fun bt210 => ((laws_eqGaps.f k t194 t195 bt210.1 bt210.2).bind fun t214 => (if t214 = true then ((laws_markGaps.f k t189 t190 1).bind fun bt215 => ((laws_markGaps.f k t194 t195 bt215.1).bind fun bt217 => (if bt217.1 < 0 then (laws_FnExactGapsWiden.j0 k true a0_0 l0_1 a1_0 l1_1 t184 t185 t199 t200) else ((laws_eqGaps.f k t199 t200 t184 t185).bind fun t219 => (laws_FnExactGapsWiden.j0 k (!t219) a0_0 l0_1 a1_0 l1_1 t184 t185 t199 t200))))) else (some false)))) else (some false)) = some true := H
        have A28 := Aside0.mk A280
        clear A280
        by_cases c29 : t209 = true
        · subst c29
          have H1 : ((laws_toGaps.f k a1_0 l1_1).bind fun bt210 => ((laws_eqGaps.f k t194 t195 bt210.1 bt210.2).bind fun t214 => (if t214 = true then ((laws_markGaps.f k t189 t190 1).bind fun bt215 => ((laws_markGaps.f k t194 t195 bt215.1).bind fun bt217 => (if bt217.1 < 0 then (laws_FnExactGapsWiden.j0 k true a0_0 l0_1 a1_0 l1_1 t184 t185 t199 t200) else ((laws_eqGaps.f k t199 t200 t184 t185).bind fun t219 => (laws_FnExactGapsWiden.j0 k (!t219) a0_0 l0_1 a1_0 l1_1 t184 t185 t199 t200))))) else (some false)))) = some true := by rw [if_pos rfl] at H; exact H
          clear H
          have H := H1
          clear H1
          replace H := Option.bind_eq_some_iff.mp H
          obtain ⟨⟨t210, t211⟩, A300, H⟩ := H
          replace H : ((laws_eqGaps.f k t194 t195 t210 t211).bind fun t214 => (if t214 = true then ((laws_markGaps.f k t189 t190 1).bind fun bt215 => ((laws_markGaps.f k t194 t195 bt215.1).bind fun bt217 => (if bt217.1 < 0 then (laws_FnExactGapsWiden.j0 k true a0_0 l0_1 a1_0 l1_1 t184 t185 t199 t200) else ((laws_eqGaps.f k t199 t200 t184 t185).bind fun t219 => (laws_FnExactGapsWiden.j0 k (!t219) a0_0 l0_1 a1_0 l1_1 t184 t185 t199 t200))))) else (some false))) = some true := H
          have A30 := Aside0.mk A300
          clear A300
          replace H := Option.bind_eq_some_iff.mp H
          obtain ⟨t214, A310, H⟩ := H
          replace H : (if t214 = true then ((laws_markGaps.f k t189 t190 1).bind fun bt215 => ((laws_markGaps.f k t194 t195 bt215.1).bind fun bt217 => (if bt217.1 < 0 then (laws_FnExactGapsWiden.j0 k true a0_0 l0_1 a1_0 l1_1 t184 t185 t199 t200) else ((laws_eqGaps.f k t199 t200 t184 t185).bind fun t219 => (laws_FnExactGapsWiden.j0 k (!t219) a0_0 l0_1 a1_0 l1_1 t184 t185 t199 t200))))) else (some false)) = some true := H
          have A31 := Aside0.mk A310
          clear A310
          by_cases c32 : t214 = true
          · subst c32
            have H1 : ((laws_markGaps.f k t189 t190 1).bind fun bt215 => ((laws_markGaps.f k t194 t195 bt215.1).bind fun bt217 => (if bt217.1 < 0 then (laws_FnExactGapsWiden.j0 k true a0_0 l0_1 a1_0 l1_1 t184 t185 t199 t200) else ((laws_eqGaps.f k t199 t200 t184 t185).bind fun t219 => (laws_FnExactGapsWiden.j0 k (!t219) a0_0 l0_1 a1_0 l1_1 t184 t185 t199 t200))))) = some true := by rw [if_pos rfl] at H; exact H
            clear H
            have H := H1
            clear H1
            replace H := Option.bind_eq_some_iff.mp H
            obtain ⟨⟨t215, t216⟩, A330, H⟩ := H
            replace H : ((laws_markGaps.f k t194 t195 t215).bind fun bt217 => (if bt217.1 < 0 then (laws_FnExactGapsWiden.j0 k true a0_0 l0_1 a1_0 l1_1 t184 t185 t199 t200) else ((laws_eqGaps.f k t199 t200 t184 t185).bind fun t219 => (laws_FnExactGapsWiden.j0 k (!t219) a0_0 l0_1 a1_0 l1_1 t184 t185 t199 t200)))) = some true := H
            have A33 := Aside0.mk A330
            clear A330
            replace H := Option.bind_eq_some_iff.mp H
            obtain ⟨⟨t217, t218⟩, A340, H⟩ := H
            replace H : (if t217 < 0 then (laws_FnExactGapsWiden.j0 k true a0_0 l0_1 a1_0 l1_1 t184 t185 t199 t200) else ((laws_eqGaps.f k t199 t200 t184 t185).bind fun t219 => (laws_FnExactGapsWiden.j0 k (!t219) a0_0 l0_1 a1_0 l1_1 t184 t185 t199 t200))) = some true := H
            have A34 := Aside0.mk A340
            clear A340
            have HC35 := Aside0.mk H
            clear H
            go_enter Try.func4, Try.ntmps4
            try go_wp2_with (first | ((with_reducible refine gate_dst (N := 2) rfl ?_); refine sqx 2 #[.int .i64 a0_0, .slice A0_1 l0_1.length c0_1] 24 ?_; intro gb172 hg w36 hbox hb; have BK172 := Aside0.mk (hbox); have GW172 := sqg HB hg; have GE172 := sqg HB hg; replace HB := sqs HB hb; clear hb hbox hg) | ((with_reducible refine gate_dst (N := 3) rfl ?_); refine sqx 3 #[.int .i64 a1_0, .slice A1_1 l1_1.length c1_1] 24 ?_; intro gb173 hg w37 hbox hb; have BK173 := Aside0.mk (hbox); have GW173 := sqg HB hg; have GE173 := sqg HB hg; have NB172_173 := sqn BK172 hg; have NB173_172 := sqm BK172 hg; replace BK172 := sqb BK172 hb; replace HB := sqs HB hb; clear hb hbox hg; have hnb38 := NB172_173.out; have hnc38 := NB173_172.out; obtain ⟨hcz39_0, hcz39_1, hfz39_0, hfz39_1⟩ := sqc2 BK172) | ((with_reducible refine gate_callee (f := 14) rfl ?_); refine sqL (some 16) Try.func14 #[.agg #[.int .i64 a0_0, .slice A0_1 l0_1.length c0_1], .int .i64 1048576] ?_; (with_reducible refine (laws_szGaps.calls a0_0 _ _ l0_1 1048576 t174 _ ?side1 ?side2 A3.out).mono ?_); (case side1 => repeat (first | exact (Kd.C_below HR0_1.out HB.out) | (with_reducible refine Kd.C_alloc ?_ _) | (with_reducible refine Kd.C_drewN ?_ _) | (with_reducible refine Kd.C_drew ?_))); (case side2 => exact HC0_1.out); rintro e w40 ⟨rfl, hb⟩; refine ⟨_, rfl, ?_⟩; replace BK172 := sqb BK172 hb; replace BK173 := sqb BK173 hb; replace HB := sqs HB hb; (try clear hb); obtain ⟨hcz41_0, hcz41_1, hfz41_0, hfz41_1⟩ := sqc2 BK173) | ((with_reducible refine gate_callee (f := 14) rfl ?_); refine sqL (some 21) Try.func14 #[.agg #[.int .i64 a1_0, .slice A1_1 l1_1.length c1_1], .int .i64 t174] ?_; (with_reducible refine (laws_szGaps.calls a1_0 _ _ l1_1 t174 t175 _ ?side1 ?side2 A10.out).mono ?_); (case side1 => repeat (first | exact (Kd.C_below HR1_1.out HB.out) | (with_reducible refine Kd.C_alloc ?_ _) | (with_reducible refine Kd.C_drewN ?_ _) | (with_reducible refine Kd.C_drew ?_))); (case side2 => exact HC1_1.out); rintro e w42 ⟨rfl, hb⟩; refine ⟨_, rfl, ?_⟩; replace BK172 := sqb BK172 hb; replace BK173 := sqb BK173 hb; replace HB := sqs HB hb; (try clear hb)))
            replace BK172 := Aside0.mk (blk_drew BK172.out)
            replace BK173 := Aside0.mk (blk_drew BK173.out)
            replace HB := Aside0.mk (below_drew1 HB.out)
            refine start_ (n := 7) (S := fun w' => w'.cell? ⟨gb172, 0, none⟩ = some (.int .i64 a0_0) ∧ w'.cell? ⟨gb172, 1, none⟩ = some (.slice A0_1 l0_1.length c0_1) ∧ w'.cell? ⟨gb173, 0, none⟩ = some (.int .i64 a1_0) ∧ w'.cell? ⟨gb173, 1, none⟩ = some (.slice A1_1 l1_1.length c1_1)) (ds := []) #[false, false, false, false, false, false, false] (by kernel_rfl) rfl rfl ⟨(blk_cell BK172.out 0).trans rfl, (blk_cell BK172.out 1).trans rfl, (blk_cell BK173.out 0).trans rfl, (blk_cell BK173.out 1).trans rfl⟩ (fun hHeld => ?_)
            generalize w42.drew = w43 at BK172 BK173 HB hHeld ⊢
            refine take_ (i := 0) (N := some 24) (v := ?_) (a' := ?_) #[true, false, false, false, false, false, false] rfl rfl (by kernel_rfl) (fun _ _ _ h => h) (Or.inl ⟨by rfl, ?_⟩) hHeld ?_ ?_
            rotate_left
            · rintro w' ⟨s0, s1, s2, s3⟩
              go_simp
              with_reducible rfl
            rotate_left
            · simp only [Act.put, List.setIfInBounds_toArray, List.set_cons_zero, List.set_cons_succ, i64_w, i32_w]
              rfl
            refine take_ (i := 2) (N := some 26) (v := ?_) (a' := ?_) #[true, false, true, false, false, false, false] rfl rfl (by kernel_rfl) (fun _ _ _ h => h) (Or.inl ⟨by rfl, ?_⟩) hHeld ?_ ?_
            rotate_left
            · rintro w' ⟨s0, s1, s2, s3⟩
              go_simp
              with_reducible rfl
            rotate_left
            · simp only [Act.put, List.setIfInBounds_toArray, List.set_cons_zero, List.set_cons_succ, i64_w, i32_w]
              rfl
            refine join_ (σ := Value × Value × Value × Nat) 1 #[true, true, true, true, true, true, false] (fun s_ => [(25, .agg #[.int .i64 t176, s_.1]), (27, .agg #[.int .i64 t180, s_.2.1]), (28, .agg #[.int .i64 t184, s_.2.2.1]), (6, .pointer (some ⟨s_.2.2.2, 0, none⟩))]) (fun s_ w' => (w'.cell? ⟨gb172, 0, none⟩ = some (.int .i64 a0_0) ∧ w'.cell? ⟨gb172, 1, none⟩ = some (.slice A0_1 l0_1.length c0_1) ∧ w'.cell? ⟨gb173, 0, none⟩ = some (.int .i64 a1_0) ∧ w'.cell? ⟨gb173, 1, none⟩ = some (.slice A1_1 l1_1.length c1_1)) ∧ (Kd.R (Kd.int .i64) 3 w' w.heap.size (fun k_ => some k_ ≠ (s_.2.1 : Value).ownBlock ∧ some k_ ≠ (s_.2.2.1 : Value).ownBlock) s_.1 t177) ∧ (Kd.R (Kd.int .i64) 3 w' w.heap.size (fun k_ => some k_ ≠ (s_.1 : Value).ownBlock ∧ some k_ ≠ (s_.2.2.1 : Value).ownBlock) s_.2.1 t181) ∧ (Kd.R (Kd.int .i64) 3 w' w.heap.size (fun k_ => some k_ ≠ (s_.1 : Value).ownBlock ∧ some k_ ≠ (s_.2.1 : Value).ownBlock) s_.2.2.1 t185) ∧ (w'.heap[gb172]? = some (.cells #[.int .i64 a0_0, .slice A0_1 l0_1.length c0_1] 24 (0, 0))) ∧ (w'.heap[gb173]? = some (.cells #[.int .i64 a1_0, .slice A1_1 l1_1.length c1_1] 24 (0, 0))) ∧ (w'.heap[s_.2.2.2]? = some (.cells #[.int .i64 0, .slice none 0 0] 29 (0, 0))) ∧ (w.heap.size ≤ s_.2.2.2) ∧ (w.heap.size ≤ s_.2.2.2) ∧ (gb172 ≠ s_.2.2.2) ∧ (s_.2.2.2 ≠ gb172) ∧ (gb173 ≠ s_.2.2.2) ∧ (s_.2.2.2 ≠ gb173) ∧ (Below w.heap.size w w')) ?_ ?_
            rotate_left
            · intro hCont
              refine two_ (i := 1) (j := 5) (Ni := some 25) (Nj := some 6) #[true, true, true, false, false, false, false] #[true, false, true, false, false, true, false] rfl rfl rfl rfl (by kernel_rfl) (by decide) (by decide) (fun K hK => ?_) (fun K hK => ?_)
              · skip
                refine sqG Try.func16 #[.agg #[.int .i64 a0_0, .slice A0_1 l0_1.length c0_1]] ?_
                with_reducible refine (laws_toGaps.calls k a0_0 _ _ l0_1 t176 t177 _ ?side1 ?side2 A19.out).mono ?_
                (case side1 => repeat (first | exact (Kd.C_below HR0_1.out HB.out) | (with_reducible refine Kd.C_alloc ?_ _) | (with_reducible refine Kd.C_drewN ?_ _) | (with_reducible refine Kd.C_drew ?_)))
                (case side2 => exact HC0_1.out)
                rintro e w44 ⟨v178, rfl, ho0, hb⟩
                refine ⟨_, rfl, ?_⟩
                have HO179 := Aside0.mk (Kd.R_lower ho0 (below_size (by repeat (first | (with_reducible first | exact HB.out | apply below_alloc | apply pw_below_drewN | apply below_drew1 | refine below_set ?_ GE172.out | refine below_set ?_ GE173.out) | exact HB.out))))
                replace BK172 := sqb BK172 hb
                replace BK173 := sqb BK173 hb
                replace HB := sqs HB hb
                (try clear hb)
                (try clear hb2)
                (try clear hk)
                (try clear hi)
                (try clear ho0)
                refine hK.out _ _ sqz (fun hHeld => ?_)
                clear hK K
                refine sqnm ?_
                refine two_ (i := 3) (j := 5) (Ni := some 27) (Nj := some 6) #[true, true, true, true, false, false, false] #[true, true, true, false, false, true, false] rfl rfl rfl rfl (by kernel_rfl) (by decide) (by decide) (fun K hK => ?_) (fun K hK => ?_)
                · skip
                  refine sqG Try.func16 #[.agg #[.int .i64 a1_0, .slice A1_1 l1_1.length c1_1]] ?_
                  with_reducible refine (laws_toGaps.calls k a1_0 _ _ l1_1 t180 t181 _ ?side1 ?side2 A20.out).mono ?_
                  (case side1 => repeat (first | exact (Kd.C_below HR1_1.out HB.out) | (with_reducible refine Kd.C_alloc ?_ _) | (with_reducible refine Kd.C_drewN ?_ _) | (with_reducible refine Kd.C_drew ?_)))
                  (case side2 => exact HC1_1.out)
                  rintro e w45 ⟨v182, rfl, ho0, hb⟩
                  refine ⟨_, rfl, ?_⟩
                  have n0_ := Aside0.mk (Kd.R_elder' (by (with_reducible repeat (first | apply Kd.R_alloc | apply Kd.R_drewN | apply Kd.R_drew)); exact HO179.out) (Kd.R_base ho0) hb)
                  have n1_ := Aside0.mk (Kd.R_lower (Kd.R_new' ho0 (Kd.R_lt (by (with_reducible repeat (first | apply Kd.R_alloc | apply Kd.R_drewN | apply Kd.R_drew)); exact HO179.out))) (below_size (by repeat (first | (with_reducible first | exact HB.out | apply below_alloc | apply pw_below_drewN | apply below_drew1 | refine below_set ?_ GE172.out | refine below_set ?_ GE173.out) | exact HB.out))))
                  have n2_ := sqb BK172 hb
                  have n3_ := sqb BK173 hb
                  have n4_ := sqs HB hb
                  clear HO179
                  clear BK172
                  clear BK173
                  clear HB
                  have HO179 := n0_
                  have HO183 := n1_
                  have BK172 := n2_
                  have BK173 := n3_
                  have HB := n4_
                  clear n0_ n1_ n2_ n3_ n4_
                  (try clear hb)
                  (try clear hb2)
                  (try clear hk)
                  (try clear hi)
                  (try clear ho0)
                  obtain ⟨Ao46, co46, eo46⟩ := Kd.R_slice HO179.out
                  (first | subst eo46 | (injection eo46 with f1_ f2_ f3_; have f4_ := f1_.symm; have f5_ := f3_.symm; clear f1_ f2_ f3_; subst f4_; subst f5_))
                  obtain ⟨Ao47, co47, eo47⟩ := Kd.R_slice HO183.out
                  (first | subst eo47 | (injection eo47 with f1_ f2_ f3_; have f4_ := f1_.symm; have f5_ := f3_.symm; clear f1_ f2_ f3_; subst f4_; subst f5_))
                  refine hK.out _ _ sqz (fun hHeld => ?_)
                  clear hK K
                  refine sqnm ?_
                  refine two_ (i := 4) (j := 5) (Ni := some 28) (Nj := some 6) #[true, true, true, true, true, false, false] #[true, true, true, true, false, true, false] rfl rfl rfl rfl (by kernel_rfl) (by decide) (by decide) (fun K hK => ?_) (fun K hK => ?_)
                  · skip
                    refine sqG Try.func20 #[.agg #[.int .i64 t176, .slice Ao46 t177.length co46], .agg #[.int .i64 t180, .slice Ao47 t181.length co47]] ?_
                    with_reducible refine (spec_GapsWiden.calls k t176 _ _ t177 t180 _ _ t181 t184 t185 _ ?side1 ?side2 ?side3 ?side4 A21.out).mono ?_
                    (case side1 => repeat (first | exact (Kd.R_reads' HO179.out).2.2 | (with_reducible refine Kd.C_alloc ?_ _) | (with_reducible refine Kd.C_drewN ?_ _) | (with_reducible refine Kd.C_drew ?_)))
                    (case side2 => exact (Kd.R_reads' HO179.out).2.1)
                    (case side3 => repeat (first | exact (Kd.R_reads' HO183.out).2.2 | (with_reducible refine Kd.C_alloc ?_ _) | (with_reducible refine Kd.C_drewN ?_ _) | (with_reducible refine Kd.C_drew ?_)))
                    (case side4 => exact (Kd.R_reads' HO183.out).2.1)
                    rintro e w48 ⟨v186, rfl, ho0, hb⟩
                    refine ⟨_, rfl, ?_⟩
                    have n0_ := Aside0.mk (Kd.R_elder' (by (with_reducible repeat (first | apply Kd.R_alloc | apply Kd.R_drewN | apply Kd.R_drew)); exact HO179.out) (Kd.R_base ho0) hb)
                    have n1_ := Aside0.mk (Kd.R_elder' (by (with_reducible repeat (first | apply Kd.R_alloc | apply Kd.R_drewN | apply Kd.R_drew)); exact HO183.out) (Kd.R_base ho0) hb)
                    have n2_ := Aside0.mk (Kd.R_lower (Kd.R_new' (Kd.R_new' ho0 (Kd.R_lt (by (with_reducible repeat (first | apply Kd.R_alloc | apply Kd.R_drewN | apply Kd.R_drew)); exact HO179.out))) (Kd.R_lt (by (with_reducible repeat (first | apply Kd.R_alloc | apply Kd.R_drewN | apply Kd.R_drew)); exact HO183.out))) (below_size (by repeat (first | (with_reducible first | exact HB.out | apply below_alloc | apply pw_below_drewN | apply below_drew1 | refine below_set ?_ GE172.out | refine below_set ?_ GE173.out) | exact HB.out))))
                    have n3_ := sqb BK172 hb
                    have n4_ := sqb BK173 hb
                    have n5_ := sqs HB hb
                    clear HO179
                    clear HO183
                    clear BK172
                    clear BK173
                    clear HB
                    have HO179 := n0_
                    have HO183 := n1_
                    have HO187 := n2_
                    have BK172 := n3_
                    have BK173 := n4_
                    have HB := n5_
                    clear n0_ n1_ n2_ n3_ n4_ n5_
                    (try clear hb)
                    (try clear hb2)
                    (try clear hk)
                    (try clear hi)
                    (try clear ho0)
                    refine hK.out _ _ sqz (fun hHeld => ?_)
                    clear hK K
                    refine sqnm ?_
                    refine one_ (i := 5) (N := some 6) #[true, true, true, true, true, true, false] rfl rfl (by kernel_rfl) (by decide) (fun K hK => ?_)
                    refine box_step ?hg (N := 6) ?hd (cs := #[.int .i64 0, .slice none 0 0]) (t := 29) ?hr ?_; (case hd => rfl); (case hg => rfl); (case hr => first | (go_simp; done) | (go_simp; rfl))
                    intro gb188 hg w49 hbox hb
                    have n0_ := Aside0.mk (Kd.R_below (by (with_reducible repeat (first | apply Kd.R_alloc | apply Kd.R_drewN | apply Kd.R_drew)); exact HO179.out) hb)
                    have n1_ := Aside0.mk (Kd.R_below (by (with_reducible repeat (first | apply Kd.R_alloc | apply Kd.R_drewN | apply Kd.R_drew)); exact HO183.out) hb)
                    have n2_ := Aside0.mk (Kd.R_below (by (with_reducible repeat (first | apply Kd.R_alloc | apply Kd.R_drewN | apply Kd.R_drew)); exact HO187.out) hb)
                    have n3_ := sqb BK172 hb
                    have n4_ := sqb BK173 hb
                    have n5_ := sqs HB hb
                    have n6_ := Aside0.mk (hbox)
                    have n7_ := sqg HB hg
                    have n8_ := sqg HB hg
                    have n9_ := sqn BK172 hg
                    have n10_ := sqm BK172 hg
                    have n11_ := sqn BK173 hg
                    have n12_ := sqm BK173 hg
                    clear HO179
                    clear HO183
                    clear HO187
                    clear BK172
                    clear BK173
                    clear HB
                    have HO179 := n0_
                    have HO183 := n1_
                    have HO187 := n2_
                    have BK172 := n3_
                    have BK173 := n4_
                    have HB := n5_
                    have BK188 := n6_
                    have GW188 := n7_
                    have GE188 := n8_
                    have NB172_188 := n9_
                    have NB188_172 := n10_
                    have NB173_188 := n11_
                    have NB188_173 := n12_
                    clear n0_ n1_ n2_ n3_ n4_ n5_ n6_ n7_ n8_ n9_ n10_ n11_ n12_
                    clear hb hbox hg
                    refine hK.out _ _ sqz (fun hHeld => ?_)
                    clear hK K
                    refine sqnm ?_
                    exact norm_ (by simp only [putAll, Act.put, List.setIfInBounds_toArray, List.set_cons_zero, List.set_cons_succ]) (hCont (.slice Ao46 t177.length co46, .slice Ao47 t181.length co47, v186, gb188) _ ⟨hHeld, (by (with_reducible repeat (first | apply Kd.R_alloc | apply Kd.R_drewN | apply Kd.R_drew)); exact Kd.R_mono HO179.out (fun _ hk => ⟨hk.1.2, hk.2⟩)), (by (with_reducible repeat (first | apply Kd.R_alloc | apply Kd.R_drewN | apply Kd.R_drew)); exact Kd.R_mono HO183.out (fun _ hk => ⟨hk.1.2, hk.2⟩)), (by (with_reducible repeat (first | apply Kd.R_alloc | apply Kd.R_drewN | apply Kd.R_drew)); exact Kd.R_mono HO187.out (fun _ hk => ⟨hk.1.2, hk.2⟩)), (by refine sqt ?_; exact BK172.out), (by refine sqt ?_; exact BK173.out), (by refine sqt ?_; exact BK188.out), GW188.out, GE188.out, NB172_188.out, NB188_172.out, NB173_188.out, NB188_173.out, (by repeat (first | (with_reducible first | exact HB.out | apply below_alloc | apply pw_below_drewN | apply below_drew1 | refine below_set ?_ GE172.out | refine below_set ?_ GE173.out | refine below_set ?_ GE188.out) | exact HB.out))⟩)
                  · skip
                    refine box_step ?hg (N := 6) ?hd (cs := #[.int .i64 0, .slice none 0 0]) (t := 29) ?hr ?_; (case hd => rfl); (case hg => rfl); (case hr => first | (go_simp; done) | (go_simp; rfl))
                    intro gb188 hg w46 hbox hb
                    have n0_ := Aside0.mk (Kd.R_below (by (with_reducible repeat (first | apply Kd.R_alloc | apply Kd.R_drewN | apply Kd.R_drew)); exact HO179.out) hb)
                    have n1_ := Aside0.mk (Kd.R_below (by (with_reducible repeat (first | apply Kd.R_alloc | apply Kd.R_drewN | apply Kd.R_drew)); exact HO183.out) hb)
                    have n2_ := sqb BK172 hb
                    have n3_ := sqb BK173 hb
                    have n4_ := sqs HB hb
                    have n5_ := Aside0.mk (hbox)
                    have n6_ := sqg HB hg
                    have n7_ := sqg HB hg
                    have n8_ := sqn BK172 hg
                    have n9_ := sqm BK172 hg
                    have n10_ := sqn BK173 hg
                    have n11_ := sqm BK173 hg
                    clear HO179
                    clear HO183
                    clear BK172
                    clear BK173
                    clear HB
                    have HO179 := n0_
                    have HO183 := n1_
                    have BK172 := n2_
                    have BK173 := n3_
                    have HB := n4_
                    have BK188 := n5_
                    have GW188 := n6_
                    have GE188 := n7_
                    have NB172_188 := n8_
                    have NB188_172 := n9_
                    have NB173_188 := n10_
                    have NB188_173 := n11_
                    clear n0_ n1_ n2_ n3_ n4_ n5_ n6_ n7_ n8_ n9_ n10_ n11_
                    clear hb hbox hg
                    obtain ⟨Ao47, co47, eo47⟩ := Kd.R_slice HO179.out
                    (first | subst eo47 | (injection eo47 with f1_ f2_ f3_; have f4_ := f1_.symm; have f5_ := f3_.symm; clear f1_ f2_ f3_; subst f4_; subst f5_))
                    obtain ⟨Ao48, co48, eo48⟩ := Kd.R_slice HO183.out
                    (first | subst eo48 | (injection eo48 with f1_ f2_ f3_; have f4_ := f1_.symm; have f5_ := f3_.symm; clear f1_ f2_ f3_; subst f4_; subst f5_))
                    refine hK.out _ _ sqz (fun hHeld => ?_)
                    clear hK K
                    refine sqnm ?_
                    refine one_ (i := 4) (N := some 28) #[true, true, true, true, true, true, false] rfl rfl (by kernel_rfl) (by decide) (fun K hK => ?_)
                    refine sqG Try.func20 #[.agg #[.int .i64 t176, .slice Ao47 t177.length co47], .agg #[.int .i64 t180, .slice Ao48 t181.length co48]] ?_
                    with_reducible refine (spec_GapsWiden.calls k t176 _ _ t177 t180 _ _ t181 t184 t185 _ ?side1 ?side2 ?side3 ?side4 A21.out).mono ?_
                    (case side1 => repeat (first | exact (Kd.R_reads' HO179.out).2.2 | (with_reducible refine Kd.C_alloc ?_ _) | (with_reducible refine Kd.C_drewN ?_ _) | (with_reducible refine Kd.C_drew ?_)))
                    (case side2 => exact (Kd.R_reads' HO179.out).2.1)
                    (case side3 => repeat (first | exact (Kd.R_reads' HO183.out).2.2 | (with_reducible refine Kd.C_alloc ?_ _) | (with_reducible refine Kd.C_drewN ?_ _) | (with_reducible refine Kd.C_drew ?_)))
                    (case side4 => exact (Kd.R_reads' HO183.out).2.1)
                    rintro e w49 ⟨v186, rfl, ho0, hb⟩
                    refine ⟨_, rfl, ?_⟩
                    have n0_ := Aside0.mk (Kd.R_elder' (by (with_reducible repeat (first | apply Kd.R_alloc | apply Kd.R_drewN | apply Kd.R_drew)); exact HO179.out) (Kd.R_base ho0) hb)
                    have n1_ := Aside0.mk (Kd.R_elder' (by (with_reducible repeat (first | apply Kd.R_alloc | apply Kd.R_drewN | apply Kd.R_drew)); exact HO183.out) (Kd.R_base ho0) hb)
                    have n2_ := Aside0.mk (Kd.R_lower (Kd.R_new' (Kd.R_new' ho0 (Kd.R_lt (by (with_reducible repeat (first | apply Kd.R_alloc | apply Kd.R_drewN | apply Kd.R_drew)); exact HO179.out))) (Kd.R_lt (by (with_reducible repeat (first | apply Kd.R_alloc | apply Kd.R_drewN | apply Kd.R_drew)); exact HO183.out))) (below_size (by repeat (first | (with_reducible first | exact HB.out | apply below_alloc | apply pw_below_drewN | apply below_drew1 | refine below_set ?_ GE172.out | refine below_set ?_ GE173.out | refine below_set ?_ GE188.out) | exact HB.out))))
                    have n3_ := sqb BK172 hb
                    have n4_ := sqb BK173 hb
                    have n5_ := sqb BK188 hb
                    have n6_ := sqs HB hb
                    clear HO179
                    clear HO183
                    clear BK172
                    clear BK173
                    clear BK188
                    clear HB
                    have HO179 := n0_
                    have HO183 := n1_
                    have HO187 := n2_
                    have BK172 := n3_
                    have BK173 := n4_
                    have BK188 := n5_
                    have HB := n6_
                    clear n0_ n1_ n2_ n3_ n4_ n5_ n6_
                    (try clear hb)
                    (try clear hb2)
                    (try clear hk)
                    (try clear hi)
                    (try clear ho0)
                    refine hK.out _ _ sqz (fun hHeld => ?_)
                    clear hK K
                    refine sqnm ?_
                    exact norm_ (by simp only [putAll, Act.put, List.setIfInBounds_toArray, List.set_cons_zero, List.set_cons_succ]) (hCont (.slice Ao47 t177.length co47, .slice Ao48 t181.length co48, v186, gb188) _ ⟨hHeld, (by (with_reducible repeat (first | apply Kd.R_alloc | apply Kd.R_drewN | apply Kd.R_drew)); exact Kd.R_mono HO179.out (fun _ hk => ⟨hk.1.2, hk.2⟩)), (by (with_reducible repeat (first | apply Kd.R_alloc | apply Kd.R_drewN | apply Kd.R_drew)); exact Kd.R_mono HO183.out (fun _ hk => ⟨hk.1.2, hk.2⟩)), (by (with_reducible repeat (first | apply Kd.R_alloc | apply Kd.R_drewN | apply Kd.R_drew)); exact Kd.R_mono HO187.out (fun _ hk => ⟨hk.1.2, hk.2⟩)), (by refine sqt ?_; exact BK172.out), (by refine sqt ?_; exact BK173.out), (by refine sqt ?_; exact BK188.out), GW188.out, GE188.out, NB172_188.out, NB188_172.out, NB173_188.out, NB188_173.out, (by repeat (first | (with_reducible first | exact HB.out | apply below_alloc | apply pw_below_drewN | apply below_drew1 | refine below_set ?_ GE172.out | refine below_set ?_ GE173.out | refine below_set ?_ GE188.out) | exact HB.out))⟩)
                · skip
                  refine box_step ?hg (N := 6) ?hd (cs := #[.int .i64 0, .slice none 0 0]) (t := 29) ?hr ?_; (case hd => rfl); (case hg => rfl); (case hr => first | (go_simp; done) | (go_simp; rfl))
                  intro gb188 hg w45 hbox hb
                  have n0_ := Aside0.mk (Kd.R_below (by (with_reducible repeat (first | apply Kd.R_alloc | apply Kd.R_drewN | apply Kd.R_drew)); exact HO179.out) hb)
                  have n1_ := sqb BK172 hb
                  have n2_ := sqb BK173 hb
                  have n3_ := sqs HB hb
                  have n4_ := Aside0.mk (hbox)
                  have n5_ := sqg HB hg
                  have n6_ := sqg HB hg
                  have n7_ := sqn BK172 hg
                  have n8_ := sqm BK172 hg
                  have n9_ := sqn BK173 hg
                  have n10_ := sqm BK173 hg
                  clear HO179
                  clear BK172
                  clear BK173
                  clear HB
                  have HO179 := n0_
                  have BK172 := n1_
                  have BK173 := n2_
                  have HB := n3_
                  have BK188 := n4_
                  have GW188 := n5_
                  have GE188 := n6_
                  have NB172_188 := n7_
                  have NB188_172 := n8_
                  have NB173_188 := n9_
                  have NB188_173 := n10_
                  clear n0_ n1_ n2_ n3_ n4_ n5_ n6_ n7_ n8_ n9_ n10_
                  clear hb hbox hg
                  refine hK.out _ _ sqz (fun hHeld => ?_)
                  clear hK K
                  refine sqnm ?_
                  refine one_ (i := 3) (N := some 27) #[true, true, true, true, false, true, false] rfl rfl (by kernel_rfl) (by decide) (fun K hK => ?_)
                  refine sqG Try.func16 #[.agg #[.int .i64 a1_0, .slice A1_1 l1_1.length c1_1]] ?_
                  with_reducible refine (laws_toGaps.calls k a1_0 _ _ l1_1 t180 t181 _ ?side1 ?side2 A20.out).mono ?_
                  (case side1 => repeat (first | exact (Kd.C_below HR1_1.out HB.out) | (with_reducible refine Kd.C_alloc ?_ _) | (with_reducible refine Kd.C_drewN ?_ _) | (with_reducible refine Kd.C_drew ?_)))
                  (case side2 => exact HC1_1.out)
                  rintro e w46 ⟨v182, rfl, ho0, hb⟩
                  refine ⟨_, rfl, ?_⟩
                  have n0_ := Aside0.mk (Kd.R_elder' (by (with_reducible repeat (first | apply Kd.R_alloc | apply Kd.R_drewN | apply Kd.R_drew)); exact HO179.out) (Kd.R_base ho0) hb)
                  have n1_ := Aside0.mk (Kd.R_lower (Kd.R_new' ho0 (Kd.R_lt (by (with_reducible repeat (first | apply Kd.R_alloc | apply Kd.R_drewN | apply Kd.R_drew)); exact HO179.out))) (below_size (by repeat (first | (with_reducible first | exact HB.out | apply below_alloc | apply pw_below_drewN | apply below_drew1 | refine below_set ?_ GE172.out | refine below_set ?_ GE173.out | refine below_set ?_ GE188.out) | exact HB.out))))
                  have n2_ := sqb BK172 hb
                  have n3_ := sqb BK173 hb
                  have n4_ := sqb BK188 hb
                  have n5_ := sqs HB hb
                  clear HO179
                  clear BK172
                  clear BK173
                  clear BK188
                  clear HB
                  have HO179 := n0_
                  have HO183 := n1_
                  have BK172 := n2_
                  have BK173 := n3_
                  have BK188 := n4_
                  have HB := n5_
                  clear n0_ n1_ n2_ n3_ n4_ n5_
                  (try clear hb)
                  (try clear hb2)
                  (try clear hk)
                  (try clear hi)
                  (try clear ho0)
                  obtain ⟨Ao47, co47, eo47⟩ := Kd.R_slice HO179.out
                  (first | subst eo47 | (injection eo47 with f1_ f2_ f3_; have f4_ := f1_.symm; have f5_ := f3_.symm; clear f1_ f2_ f3_; subst f4_; subst f5_))
                  obtain ⟨Ao48, co48, eo48⟩ := Kd.R_slice HO183.out
                  (first | subst eo48 | (injection eo48 with f1_ f2_ f3_; have f4_ := f1_.symm; have f5_ := f3_.symm; clear f1_ f2_ f3_; subst f4_; subst f5_))
                  refine hK.out _ _ sqz (fun hHeld => ?_)
                  clear hK K
                  refine sqnm ?_
                  refine one_ (i := 4) (N := some 28) #[true, true, true, true, true, true, false] rfl rfl (by kernel_rfl) (by decide) (fun K hK => ?_)
                  refine sqG Try.func20 #[.agg #[.int .i64 t176, .slice Ao47 t177.length co47], .agg #[.int .i64 t180, .slice Ao48 t181.length co48]] ?_
                  with_reducible refine (spec_GapsWiden.calls k t176 _ _ t177 t180 _ _ t181 t184 t185 _ ?side1 ?side2 ?side3 ?side4 A21.out).mono ?_
                  (case side1 => repeat (first | exact (Kd.R_reads' HO179.out).2.2 | (with_reducible refine Kd.C_alloc ?_ _) | (with_reducible refine Kd.C_drewN ?_ _) | (with_reducible refine Kd.C_drew ?_)))
                  (case side2 => exact (Kd.R_reads' HO179.out).2.1)
                  (case side3 => repeat (first | exact (Kd.R_reads' HO183.out).2.2 | (with_reducible refine Kd.C_alloc ?_ _) | (with_reducible refine Kd.C_drewN ?_ _) | (with_reducible refine Kd.C_drew ?_)))
                  (case side4 => exact (Kd.R_reads' HO183.out).2.1)
                  rintro e w49 ⟨v186, rfl, ho0, hb⟩
                  refine ⟨_, rfl, ?_⟩
                  have n0_ := Aside0.mk (Kd.R_elder' (by (with_reducible repeat (first | apply Kd.R_alloc | apply Kd.R_drewN | apply Kd.R_drew)); exact HO179.out) (Kd.R_base ho0) hb)
                  have n1_ := Aside0.mk (Kd.R_elder' (by (with_reducible repeat (first | apply Kd.R_alloc | apply Kd.R_drewN | apply Kd.R_drew)); exact HO183.out) (Kd.R_base ho0) hb)
                  have n2_ := Aside0.mk (Kd.R_lower (Kd.R_new' (Kd.R_new' ho0 (Kd.R_lt (by (with_reducible repeat (first | apply Kd.R_alloc | apply Kd.R_drewN | apply Kd.R_drew)); exact HO179.out))) (Kd.R_lt (by (with_reducible repeat (first | apply Kd.R_alloc | apply Kd.R_drewN | apply Kd.R_drew)); exact HO183.out))) (below_size (by repeat (first | (with_reducible first | exact HB.out | apply below_alloc | apply pw_below_drewN | apply below_drew1 | refine below_set ?_ GE172.out | refine below_set ?_ GE173.out | refine below_set ?_ GE188.out) | exact HB.out))))
                  have n3_ := sqb BK172 hb
                  have n4_ := sqb BK173 hb
                  have n5_ := sqb BK188 hb
                  have n6_ := sqs HB hb
                  clear HO179
                  clear HO183
                  clear BK172
                  clear BK173
                  clear BK188
                  clear HB
                  have HO179 := n0_
                  have HO183 := n1_
                  have HO187 := n2_
                  have BK172 := n3_
                  have BK173 := n4_
                  have BK188 := n5_
                  have HB := n6_
                  clear n0_ n1_ n2_ n3_ n4_ n5_ n6_
                  (try clear hb)
                  (try clear hb2)
                  (try clear hk)
                  (try clear hi)
                  (try clear ho0)
                  refine hK.out _ _ sqz (fun hHeld => ?_)
                  clear hK K
                  refine sqnm ?_
                  exact norm_ (by simp only [putAll, Act.put, List.setIfInBounds_toArray, List.set_cons_zero, List.set_cons_succ]) (hCont (.slice Ao47 t177.length co47, .slice Ao48 t181.length co48, v186, gb188) _ ⟨hHeld, (by (with_reducible repeat (first | apply Kd.R_alloc | apply Kd.R_drewN | apply Kd.R_drew)); exact Kd.R_mono HO179.out (fun _ hk => ⟨hk.1.2, hk.2⟩)), (by (with_reducible repeat (first | apply Kd.R_alloc | apply Kd.R_drewN | apply Kd.R_drew)); exact Kd.R_mono HO183.out (fun _ hk => ⟨hk.1.2, hk.2⟩)), (by (with_reducible repeat (first | apply Kd.R_alloc | apply Kd.R_drewN | apply Kd.R_drew)); exact Kd.R_mono HO187.out (fun _ hk => ⟨hk.1.2, hk.2⟩)), (by refine sqt ?_; exact BK172.out), (by refine sqt ?_; exact BK173.out), (by refine sqt ?_; exact BK188.out), GW188.out, GE188.out, NB172_188.out, NB188_172.out, NB173_188.out, NB188_173.out, (by repeat (first | (with_reducible first | exact HB.out | apply below_alloc | apply pw_below_drewN | apply below_drew1 | refine below_set ?_ GE172.out | refine below_set ?_ GE173.out | refine below_set ?_ GE188.out) | exact HB.out))⟩)
              · skip
                refine box_step ?hg (N := 6) ?hd (cs := #[.int .i64 0, .slice none 0 0]) (t := 29) ?hr ?_; (case hd => rfl); (case hg => rfl); (case hr => first | (go_simp; done) | (go_simp; rfl))
                intro gb188 hg w44 hbox hb
                have BK188 := Aside0.mk (hbox)
                have GW188 := sqg HB hg
                have GE188 := sqg HB hg
                have NB172_188 := sqn BK172 hg
                have NB188_172 := sqm BK172 hg
                have NB173_188 := sqn BK173 hg
                have NB188_173 := sqm BK173 hg
                replace BK172 := sqb BK172 hb
                replace BK173 := sqb BK173 hb
                replace HB := sqs HB hb
                clear hb hbox hg
                refine hK.out _ _ sqz (fun hHeld => ?_)
                clear hK K
                refine sqnm ?_
                refine one_ (i := 1) (N := some 25) #[true, true, true, false, false, true, false] rfl rfl (by kernel_rfl) (by decide) (fun K hK => ?_)
                refine sqG Try.func16 #[.agg #[.int .i64 a0_0, .slice A0_1 l0_1.length c0_1]] ?_
                with_reducible refine (laws_toGaps.calls k a0_0 _ _ l0_1 t176 t177 _ ?side1 ?side2 A19.out).mono ?_
                (case side1 => repeat (first | exact (Kd.C_below HR0_1.out HB.out) | (with_reducible refine Kd.C_alloc ?_ _) | (with_reducible refine Kd.C_drewN ?_ _) | (with_reducible refine Kd.C_drew ?_)))
                (case side2 => exact HC0_1.out)
                rintro e w45 ⟨v178, rfl, ho0, hb⟩
                refine ⟨_, rfl, ?_⟩
                have HO179 := Aside0.mk (Kd.R_lower ho0 (below_size (by repeat (first | (with_reducible first | exact HB.out | apply below_alloc | apply pw_below_drewN | apply below_drew1 | refine below_set ?_ GE172.out | refine below_set ?_ GE173.out | refine below_set ?_ GE188.out) | exact HB.out))))
                replace BK172 := sqb BK172 hb
                replace BK173 := sqb BK173 hb
                replace BK188 := sqb BK188 hb
                replace HB := sqs HB hb
                (try clear hb)
                (try clear hb2)
                (try clear hk)
                (try clear hi)
                (try clear ho0)
                refine hK.out _ _ sqz (fun hHeld => ?_)
                clear hK K
                refine sqnm ?_
                refine one_ (i := 3) (N := some 27) #[true, true, true, true, false, true, false] rfl rfl (by kernel_rfl) (by decide) (fun K hK => ?_)
                refine sqG Try.func16 #[.agg #[.int .i64 a1_0, .slice A1_1 l1_1.length c1_1]] ?_
                with_reducible refine (laws_toGaps.calls k a1_0 _ _ l1_1 t180 t181 _ ?side1 ?side2 A20.out).mono ?_
                (case side1 => repeat (first | exact (Kd.C_below HR1_1.out HB.out) | (with_reducible refine Kd.C_alloc ?_ _) | (with_reducible refine Kd.C_drewN ?_ _) | (with_reducible refine Kd.C_drew ?_)))
                (case side2 => exact HC1_1.out)
                rintro e w46 ⟨v182, rfl, ho0, hb⟩
                refine ⟨_, rfl, ?_⟩
                have n0_ := Aside0.mk (Kd.R_elder' (by (with_reducible repeat (first | apply Kd.R_alloc | apply Kd.R_drewN | apply Kd.R_drew)); exact HO179.out) (Kd.R_base ho0) hb)
                have n1_ := Aside0.mk (Kd.R_lower (Kd.R_new' ho0 (Kd.R_lt (by (with_reducible repeat (first | apply Kd.R_alloc | apply Kd.R_drewN | apply Kd.R_drew)); exact HO179.out))) (below_size (by repeat (first | (with_reducible first | exact HB.out | apply below_alloc | apply pw_below_drewN | apply below_drew1 | refine below_set ?_ GE172.out | refine below_set ?_ GE173.out | refine below_set ?_ GE188.out) | exact HB.out))))
                have n2_ := sqb BK172 hb
                have n3_ := sqb BK173 hb
                have n4_ := sqb BK188 hb
                have n5_ := sqs HB hb
                clear HO179
                clear BK172
                clear BK173
                clear BK188
                clear HB
                have HO179 := n0_
                have HO183 := n1_
                have BK172 := n2_
                have BK173 := n3_
                have BK188 := n4_
                have HB := n5_
                clear n0_ n1_ n2_ n3_ n4_ n5_
                (try clear hb)
                (try clear hb2)
                (try clear hk)
                (try clear hi)
                (try clear ho0)
                obtain ⟨Ao47, co47, eo47⟩ := Kd.R_slice HO179.out
                (first | subst eo47 | (injection eo47 with f1_ f2_ f3_; have f4_ := f1_.symm; have f5_ := f3_.symm; clear f1_ f2_ f3_; subst f4_; subst f5_))
                obtain ⟨Ao48, co48, eo48⟩ := Kd.R_slice HO183.out
                (first | subst eo48 | (injection eo48 with f1_ f2_ f3_; have f4_ := f1_.symm; have f5_ := f3_.symm; clear f1_ f2_ f3_; subst f4_; subst f5_))
                refine hK.out _ _ sqz (fun hHeld => ?_)
                clear hK K
                refine sqnm ?_
                refine one_ (i := 4) (N := some 28) #[true, true, true, true, true, true, false] rfl rfl (by kernel_rfl) (by decide) (fun K hK => ?_)
                refine sqG Try.func20 #[.agg #[.int .i64 t176, .slice Ao47 t177.length co47], .agg #[.int .i64 t180, .slice Ao48 t181.length co48]] ?_
                with_reducible refine (spec_GapsWiden.calls k t176 _ _ t177 t180 _ _ t181 t184 t185 _ ?side1 ?side2 ?side3 ?side4 A21.out).mono ?_
                (case side1 => repeat (first | exact (Kd.R_reads' HO179.out).2.2 | (with_reducible refine Kd.C_alloc ?_ _) | (with_reducible refine Kd.C_drewN ?_ _) | (with_reducible refine Kd.C_drew ?_)))
                (case side2 => exact (Kd.R_reads' HO179.out).2.1)
                (case side3 => repeat (first | exact (Kd.R_reads' HO183.out).2.2 | (with_reducible refine Kd.C_alloc ?_ _) | (with_reducible refine Kd.C_drewN ?_ _) | (with_reducible refine Kd.C_drew ?_)))
                (case side4 => exact (Kd.R_reads' HO183.out).2.1)
                rintro e w49 ⟨v186, rfl, ho0, hb⟩
                refine ⟨_, rfl, ?_⟩
                have n0_ := Aside0.mk (Kd.R_elder' (by (with_reducible repeat (first | apply Kd.R_alloc | apply Kd.R_drewN | apply Kd.R_drew)); exact HO179.out) (Kd.R_base ho0) hb)
                have n1_ := Aside0.mk (Kd.R_elder' (by (with_reducible repeat (first | apply Kd.R_alloc | apply Kd.R_drewN | apply Kd.R_drew)); exact HO183.out) (Kd.R_base ho0) hb)
                have n2_ := Aside0.mk (Kd.R_lower (Kd.R_new' (Kd.R_new' ho0 (Kd.R_lt (by (with_reducible repeat (first | apply Kd.R_alloc | apply Kd.R_drewN | apply Kd.R_drew)); exact HO179.out))) (Kd.R_lt (by (with_reducible repeat (first | apply Kd.R_alloc | apply Kd.R_drewN | apply Kd.R_drew)); exact HO183.out))) (below_size (by repeat (first | (with_reducible first | exact HB.out | apply below_alloc | apply pw_below_drewN | apply below_drew1 | refine below_set ?_ GE172.out | refine below_set ?_ GE173.out | refine below_set ?_ GE188.out) | exact HB.out))))
                have n3_ := sqb BK172 hb
                have n4_ := sqb BK173 hb
                have n5_ := sqb BK188 hb
                have n6_ := sqs HB hb
                clear HO179
                clear HO183
                clear BK172
                clear BK173
                clear BK188
                clear HB
                have HO179 := n0_
                have HO183 := n1_
                have HO187 := n2_
                have BK172 := n3_
                have BK173 := n4_
                have BK188 := n5_
                have HB := n6_
                clear n0_ n1_ n2_ n3_ n4_ n5_ n6_
                (try clear hb)
                (try clear hb2)
                (try clear hk)
                (try clear hi)
                (try clear ho0)
                refine hK.out _ _ sqz (fun hHeld => ?_)
                clear hK K
                refine sqnm ?_
                exact norm_ (by simp only [putAll, Act.put, List.setIfInBounds_toArray, List.set_cons_zero, List.set_cons_succ]) (hCont (.slice Ao47 t177.length co47, .slice Ao48 t181.length co48, v186, gb188) _ ⟨hHeld, (by (with_reducible repeat (first | apply Kd.R_alloc | apply Kd.R_drewN | apply Kd.R_drew)); exact Kd.R_mono HO179.out (fun _ hk => ⟨hk.1.2, hk.2⟩)), (by (with_reducible repeat (first | apply Kd.R_alloc | apply Kd.R_drewN | apply Kd.R_drew)); exact Kd.R_mono HO183.out (fun _ hk => ⟨hk.1.2, hk.2⟩)), (by (with_reducible repeat (first | apply Kd.R_alloc | apply Kd.R_drewN | apply Kd.R_drew)); exact Kd.R_mono HO187.out (fun _ hk => ⟨hk.1.2, hk.2⟩)), (by refine sqt ?_; exact BK172.out), (by refine sqt ?_; exact BK173.out), (by refine sqt ?_; exact BK188.out), GW188.out, GE188.out, NB172_188.out, NB188_172.out, NB173_188.out, NB188_173.out, (by repeat (first | (with_reducible first | exact HB.out | apply below_alloc | apply pw_below_drewN | apply below_drew1 | refine below_set ?_ GE172.out | refine below_set ?_ GE173.out | refine below_set ?_ GE188.out) | exact HB.out))⟩)
            rintro ⟨v178, v182, v186, gb188⟩ w50 ⟨hS_, h0_, h1_, h2_, h3_, h4_, h5_, h6_, h7_, h8_, h9_, h10_, h11_, h12_⟩
            have n0_ : Aside0 (Kd.R (Kd.int .i64) 3 w50 w.heap.size (fun k_ => some k_ ≠ (v182 : Value).ownBlock ∧ some k_ ≠ (v186 : Value).ownBlock) v178 t177) := ⟨h0_⟩
            have n1_ : Aside0 (Kd.R (Kd.int .i64) 3 w50 w.heap.size (fun k_ => some k_ ≠ (v178 : Value).ownBlock ∧ some k_ ≠ (v186 : Value).ownBlock) v182 t181) := ⟨h1_⟩
            have n2_ : Aside0 (Kd.R (Kd.int .i64) 3 w50 w.heap.size (fun k_ => some k_ ≠ (v178 : Value).ownBlock ∧ some k_ ≠ (v182 : Value).ownBlock) v186 t185) := ⟨h2_⟩
            have n3_ : Aside0 (w50.heap[gb172]? = some (.cells #[.int .i64 a0_0, .slice A0_1 l0_1.length c0_1] 24 (0, 0))) := ⟨h3_⟩
            have n4_ : Aside0 (w50.heap[gb173]? = some (.cells #[.int .i64 a1_0, .slice A1_1 l1_1.length c1_1] 24 (0, 0))) := ⟨h4_⟩
            have n5_ : Aside0 (w50.heap[gb188]? = some (.cells #[.int .i64 0, .slice none 0 0] 29 (0, 0))) := ⟨h5_⟩
            have n6_ : Aside0 (w.heap.size ≤ gb188) := ⟨h6_⟩
            have n7_ : Aside0 (w.heap.size ≤ gb188) := ⟨h7_⟩
            have n8_ : Aside0 (gb172 ≠ gb188) := ⟨h8_⟩
            have n9_ : Aside0 (gb188 ≠ gb172) := ⟨h9_⟩
            have n10_ : Aside0 (gb173 ≠ gb188) := ⟨h10_⟩
            have n11_ : Aside0 (gb188 ≠ gb173) := ⟨h11_⟩
            have n12_ : Aside0 (Below w.heap.size w w50) := ⟨h12_⟩
            clear BK172
            clear BK173
            clear HB
            clear h0_ h1_ h2_ h3_ h4_ h5_ h6_ h7_ h8_ h9_ h10_ h11_ h12_
            have HO179 := n0_
            have HO183 := n1_
            have HO187 := n2_
            have BK172 := n3_
            have BK173 := n4_
            have BK188 := n5_
            have GW188 := n6_
            have GE188 := n7_
            have NB172_188 := n8_
            have NB188_172 := n9_
            have NB173_188 := n10_
            have NB188_173 := n11_
            have HB := n12_
            clear n0_ n1_ n2_ n3_ n4_ n5_ n6_ n7_ n8_ n9_ n10_ n11_ n12_
            have hHeld : w50.cell? ⟨gb172, 0, none⟩ = some (.int .i64 a0_0) ∧ w50.cell? ⟨gb172, 1, none⟩ = some (.slice A0_1 l0_1.length c0_1) ∧ w50.cell? ⟨gb173, 0, none⟩ = some (.int .i64 a1_0) ∧ w50.cell? ⟨gb173, 1, none⟩ = some (.slice A1_1 l1_1.length c1_1) := hS_
            obtain ⟨Ao52, co52, eo52⟩ := Kd.R_slice HO187.out
            (first | subst eo52 | (injection eo52 with f1_ f2_ f3_; have f4_ := f1_.symm; have f5_ := f3_.symm; clear f1_ f2_ f3_; subst f4_; subst f5_))
            refine norm_ (a' := ?_) ?_ ?_
            rotate_left
            · simp only [putAll, Act.put, List.setIfInBounds_toArray, List.set_cons_zero, List.set_cons_succ]
              rfl
            refine one_ (i := 6) (N := none) #[true, true, true, true, true, true, true] rfl rfl (by kernel_rfl) (by decide) (fun K hK => ?_)
            have hs51 : w50.cell? ⟨gb188, 0, none⟩ = some (.int .i64 0) := (blk_cell BK188.out 0).trans rfl
            have hfs51 := blk_frozen BK188.out 0
            have hns51_0 := NB172_188.out
            have hns51_1 := NB173_188.out
            have hms51_0 := NB188_172.out
            have hms51_1 := NB188_173.out
            have hs53 : w50.cell? ⟨gb188, 1, none⟩ = some (.slice none 0 0) := (blk_cell BK188.out 1).trans rfl
            have hfs53 := blk_frozen BK188.out 1
            have hns53_0 := NB172_188.out
            have hns53_1 := NB173_188.out
            have hms53_0 := NB188_172.out
            have hms53_1 := NB188_173.out
            refine skip_ (w1 := ?_) (by rfl) rfl ?_ ?_
            rotate_left
            · go_simp
              rfl
            refine hK.out _ _ ⟨((cell_far (p := ⟨gb188, _, none⟩) NB172_188.out _).trans (((cell_far (p := ⟨gb188, _, none⟩) NB172_188.out _).trans (hHeld.1)))), ((cell_far (p := ⟨gb188, _, none⟩) NB172_188.out _).trans (((cell_far (p := ⟨gb188, _, none⟩) NB172_188.out _).trans (hHeld.2.1)))), ((cell_far (p := ⟨gb188, _, none⟩) NB173_188.out _).trans (((cell_far (p := ⟨gb188, _, none⟩) NB173_188.out _).trans (hHeld.2.2.1)))), ((cell_far (p := ⟨gb188, _, none⟩) NB173_188.out _).trans (((cell_far (p := ⟨gb188, _, none⟩) NB173_188.out _).trans (hHeld.2.2.2))))⟩ (fun hHeld => ?_)
            clear hK K
            refine done_ (by kernel_rfl) ?_
            have hnb54 := NB172_188.out
            have hnc54 := NB188_172.out
            obtain ⟨hcz55_0, hcz55_1, hfz55_0, hfz55_1⟩ := sqc2 BK172
            try go_wp2_with (first | ((with_reducible refine gate_callee (f := 16) rfl ?_); refine sqL (some 30) Try.func16 #[.agg #[.int .i64 a0_0, .slice A0_1 l0_1.length c0_1]] ?_; (with_reducible refine (laws_toGaps.calls k a0_0 _ _ l0_1 t189 t190 _ ?side1 ?side2 A22.out).mono ?_); (case side1 => exact Kd.C_below HR0_1.out (by repeat (first | (with_reducible first | exact HB.out | apply below_alloc | apply pw_below_drewN | apply below_drew1 | refine below_set ?_ GE172.out | refine below_set ?_ GE173.out | refine below_set ?_ GE188.out) | exact HB.out))); (case side2 => exact HC0_1.out); rintro e w56 ⟨v191, rfl, ho0, hb⟩; refine ⟨_, rfl, ?_⟩; have n0_ := Aside0.mk (Kd.R_elder' (by (with_reducible repeat (first | apply Kd.R_alloc | apply Kd.R_drewN | apply Kd.R_drew)); exact (Kd.R_mono (Kd.R_far (p := ⟨gb188, 1, none⟩) (Kd.R_far (p := ⟨gb188, 0, none⟩) (Kd.R_types HO179.out BK188.out (by decide)) (fun _ hk => hk.2) (.int .i64 t184)) (fun _ hk => hk.2) (.slice Ao52 t185.length co52)) (fun _ h_ => h_.1))) (Kd.R_base ho0) hb); have n1_ := Aside0.mk (Kd.R_elder' (by (with_reducible repeat (first | apply Kd.R_alloc | apply Kd.R_drewN | apply Kd.R_drew)); exact (Kd.R_mono (Kd.R_far (p := ⟨gb188, 1, none⟩) (Kd.R_far (p := ⟨gb188, 0, none⟩) (Kd.R_types HO183.out BK188.out (by decide)) (fun _ hk => hk.2) (.int .i64 t184)) (fun _ hk => hk.2) (.slice Ao52 t185.length co52)) (fun _ h_ => h_.1))) (Kd.R_base ho0) hb); have n2_ := Aside0.mk (Kd.R_elder' (by (with_reducible repeat (first | apply Kd.R_alloc | apply Kd.R_drewN | apply Kd.R_drew)); exact (Kd.R_mono (Kd.R_far (p := ⟨gb188, 1, none⟩) (Kd.R_far (p := ⟨gb188, 0, none⟩) (Kd.R_types HO187.out BK188.out (by decide)) (fun _ hk => hk.2) (.int .i64 t184)) (fun _ hk => hk.2) (.slice Ao52 t185.length co52)) (fun _ h_ => h_.1))) (Kd.R_base ho0) hb); have n3_ := Aside0.mk (Kd.R_lower (Kd.R_new' (Kd.R_new' (Kd.R_new' ho0 (Kd.R_lt (by (with_reducible repeat (first | apply Kd.R_alloc | apply Kd.R_drewN | apply Kd.R_drew)); exact (Kd.R_mono (Kd.R_far (p := ⟨gb188, 1, none⟩) (Kd.R_far (p := ⟨gb188, 0, none⟩) (Kd.R_types HO179.out BK188.out (by decide)) (fun _ hk => hk.2) (.int .i64 t184)) (fun _ hk => hk.2) (.slice Ao52 t185.length co52)) (fun _ h_ => h_.1))))) (Kd.R_lt (by (with_reducible repeat (first | apply Kd.R_alloc | apply Kd.R_drewN | apply Kd.R_drew)); exact (Kd.R_mono (Kd.R_far (p := ⟨gb188, 1, none⟩) (Kd.R_far (p := ⟨gb188, 0, none⟩) (Kd.R_types HO183.out BK188.out (by decide)) (fun _ hk => hk.2) (.int .i64 t184)) (fun _ hk => hk.2) (.slice Ao52 t185.length co52)) (fun _ h_ => h_.1))))) (Kd.R_lt (by (with_reducible repeat (first | apply Kd.R_alloc | apply Kd.R_drewN | apply Kd.R_drew)); exact (Kd.R_mono (Kd.R_far (p := ⟨gb188, 1, none⟩) (Kd.R_far (p := ⟨gb188, 0, none⟩) (Kd.R_types HO187.out BK188.out (by decide)) (fun _ hk => hk.2) (.int .i64 t184)) (fun _ hk => hk.2) (.slice Ao52 t185.length co52)) (fun _ h_ => h_.1))))) (below_size (by repeat (first | (with_reducible first | exact HB.out | apply below_alloc | apply pw_below_drewN | apply below_drew1 | refine below_set ?_ GE172.out | refine below_set ?_ GE173.out | refine below_set ?_ GE188.out) | exact HB.out)))); have n4_ := Aside0.mk (blk_below (g := gb172) (o := .cells #[.int .i64 a0_0, .slice A0_1 l0_1.length c0_1] 24 (0, 0)) (by refine sqt ?_; refine blk_far ?_ NB172_188.out _; refine sqt ?_; refine blk_far ?_ NB172_188.out _; refine sqt ?_; exact BK172.out) hb); have n5_ := Aside0.mk (blk_below (g := gb173) (o := .cells #[.int .i64 a1_0, .slice A1_1 l1_1.length c1_1] 24 (0, 0)) (by refine sqt ?_; refine blk_far ?_ NB173_188.out _; refine sqt ?_; refine blk_far ?_ NB173_188.out _; refine sqt ?_; exact BK173.out) hb); have n6_ := Aside0.mk (blk_below (g := gb188) (o := .cells #[.int .i64 t184, .slice Ao52 t185.length co52] 29 (0, 0)) (by refine sqt ?_; refine blk_put (cs := #[.int .i64 t184, .slice none 0 0]) ?_ 1 _ rfl; refine sqt ?_; refine blk_put (cs := #[.int .i64 0, .slice none 0 0]) ?_ 0 _ rfl; refine sqt ?_; exact BK188.out) hb); have n7_ := sqs HB hb; clear HO179; clear HO183; clear HO187; clear BK172; clear BK173; clear BK188; clear HB; have HO179 := n0_; have HO183 := n1_; have HO187 := n2_; have HO192 := n3_; have BK172 := n4_; have BK173 := n5_; have BK188 := n6_; have HB := n7_; clear n0_ n1_ n2_ n3_ n4_ n5_ n6_ n7_; (try clear hb); (try clear hb2); (try clear hk); (try clear hi); (try clear ho0)) | ((with_reducible refine gate_dst (N := 7) rfl ?_); refine sqx 7 #[.int .i64 0, .slice none 0 0] 29 ?_; intro gb193 hg w57 hbox hb; have n0_ := Aside0.mk (Kd.R_below (by (with_reducible repeat (first | apply Kd.R_alloc | apply Kd.R_drewN | apply Kd.R_drew)); exact HO179.out) hb); have n1_ := Aside0.mk (Kd.R_below (by (with_reducible repeat (first | apply Kd.R_alloc | apply Kd.R_drewN | apply Kd.R_drew)); exact HO183.out) hb); have n2_ := Aside0.mk (Kd.R_below (by (with_reducible repeat (first | apply Kd.R_alloc | apply Kd.R_drewN | apply Kd.R_drew)); exact HO187.out) hb); have n3_ := Aside0.mk (Kd.R_below (by (with_reducible repeat (first | apply Kd.R_alloc | apply Kd.R_drewN | apply Kd.R_drew)); exact HO192.out) hb); have n4_ := sqb BK172 hb; have n5_ := sqb BK173 hb; have n6_ := sqb BK188 hb; have n7_ := sqs HB hb; have n8_ := Aside0.mk (hbox); have n9_ := sqg HB hg; have n10_ := sqg HB hg; have n11_ := sqn BK172 hg; have n12_ := sqm BK172 hg; have n13_ := sqn BK173 hg; have n14_ := sqm BK173 hg; have n15_ := sqn BK188 hg; have n16_ := sqm BK188 hg; clear HO179; clear HO183; clear HO187; clear HO192; clear BK172; clear BK173; clear BK188; clear HB; have HO179 := n0_; have HO183 := n1_; have HO187 := n2_; have HO192 := n3_; have BK172 := n4_; have BK173 := n5_; have BK188 := n6_; have HB := n7_; have BK193 := n8_; have GW193 := n9_; have GE193 := n10_; have NB172_193 := n11_; have NB193_172 := n12_; have NB173_193 := n13_; have NB193_173 := n14_; have NB188_193 := n15_; have NB193_188 := n16_; clear n0_ n1_ n2_ n3_ n4_ n5_ n6_ n7_ n8_ n9_ n10_ n11_ n12_ n13_ n14_ n15_ n16_; clear hb hbox hg; have hnb58 := NB193_172.out; have hnc58 := NB172_193.out; have hnb59 := NB193_173.out; have hnc59 := NB173_193.out; have hnb60 := NB193_188.out; have hnc60 := NB188_193.out; obtain ⟨hcz61_0, hcz61_1, hfz61_0, hfz61_1⟩ := sqc2 BK193; obtain ⟨Ao62, co62, eo62⟩ := Kd.R_slice HO192.out; subst eo62; have hnb63 := NB173_188.out; have hnc63 := NB188_173.out; obtain ⟨hcz64_0, hcz64_1, hfz64_0, hfz64_1⟩ := sqc2 BK173) | ((with_reducible refine gate_callee (f := 16) rfl ?_); refine sqL (some 32) Try.func16 #[.agg #[.int .i64 a1_0, .slice A1_1 l1_1.length c1_1]] ?_; (with_reducible refine (laws_toGaps.calls k a1_0 _ _ l1_1 t194 t195 _ ?side1 ?side2 A23.out).mono ?_); (case side1 => exact Kd.C_below HR1_1.out (by repeat (first | (with_reducible first | exact HB.out | apply below_alloc | apply pw_below_drewN | apply below_drew1 | refine below_set ?_ GE172.out | refine below_set ?_ GE173.out | refine below_set ?_ GE188.out | refine below_set ?_ GE193.out) | exact HB.out))); (case side2 => exact HC1_1.out); rintro e w65 ⟨v196, rfl, ho0, hb⟩; refine ⟨_, rfl, ?_⟩; have n0_ := Aside0.mk (Kd.R_elder' (by (with_reducible repeat (first | apply Kd.R_alloc | apply Kd.R_drewN | apply Kd.R_drew)); exact (Kd.R_mono (Kd.R_far (p := ⟨gb193, 1, none⟩) (Kd.R_far (p := ⟨gb193, 0, none⟩) (Kd.R_types HO179.out BK193.out (by decide)) (fun _ hk => hk.2) (.int .i64 t189)) (fun _ hk => hk.2) (.slice Ao62 t190.length co62)) (fun _ h_ => h_.1))) (Kd.R_base ho0) hb); have n1_ := Aside0.mk (Kd.R_elder' (by (with_reducible repeat (first | apply Kd.R_alloc | apply Kd.R_drewN | apply Kd.R_drew)); exact (Kd.R_mono (Kd.R_far (p := ⟨gb193, 1, none⟩) (Kd.R_far (p := ⟨gb193, 0, none⟩) (Kd.R_types HO183.out BK193.out (by decide)) (fun _ hk => hk.2) (.int .i64 t189)) (fun _ hk => hk.2) (.slice Ao62 t190.length co62)) (fun _ h_ => h_.1))) (Kd.R_base ho0) hb); have n2_ := Aside0.mk (Kd.R_elder' (by (with_reducible repeat (first | apply Kd.R_alloc | apply Kd.R_drewN | apply Kd.R_drew)); exact (Kd.R_mono (Kd.R_far (p := ⟨gb193, 1, none⟩) (Kd.R_far (p := ⟨gb193, 0, none⟩) (Kd.R_types HO187.out BK193.out (by decide)) (fun _ hk => hk.2) (.int .i64 t189)) (fun _ hk => hk.2) (.slice Ao62 t190.length co62)) (fun _ h_ => h_.1))) (Kd.R_base ho0) hb); have n3_ := Aside0.mk (Kd.R_elder' (by (with_reducible repeat (first | apply Kd.R_alloc | apply Kd.R_drewN | apply Kd.R_drew)); exact (Kd.R_mono (Kd.R_far (p := ⟨gb193, 1, none⟩) (Kd.R_far (p := ⟨gb193, 0, none⟩) (Kd.R_types HO192.out BK193.out (by decide)) (fun _ hk => hk.2) (.int .i64 t189)) (fun _ hk => hk.2) (.slice Ao62 t190.length co62)) (fun _ h_ => h_.1))) (Kd.R_base ho0) hb); have n4_ := Aside0.mk (Kd.R_lower (Kd.R_new' (Kd.R_new' (Kd.R_new' (Kd.R_new' ho0 (Kd.R_lt (by (with_reducible repeat (first | apply Kd.R_alloc | apply Kd.R_drewN | apply Kd.R_drew)); exact (Kd.R_mono (Kd.R_far (p := ⟨gb193, 1, none⟩) (Kd.R_far (p := ⟨gb193, 0, none⟩) (Kd.R_types HO179.out BK193.out (by decide)) (fun _ hk => hk.2) (.int .i64 t189)) (fun _ hk => hk.2) (.slice Ao62 t190.length co62)) (fun _ h_ => h_.1))))) (Kd.R_lt (by (with_reducible repeat (first | apply Kd.R_alloc | apply Kd.R_drewN | apply Kd.R_drew)); exact (Kd.R_mono (Kd.R_far (p := ⟨gb193, 1, none⟩) (Kd.R_far (p := ⟨gb193, 0, none⟩) (Kd.R_types HO183.out BK193.out (by decide)) (fun _ hk => hk.2) (.int .i64 t189)) (fun _ hk => hk.2) (.slice Ao62 t190.length co62)) (fun _ h_ => h_.1))))) (Kd.R_lt (by (with_reducible repeat (first | apply Kd.R_alloc | apply Kd.R_drewN | apply Kd.R_drew)); exact (Kd.R_mono (Kd.R_far (p := ⟨gb193, 1, none⟩) (Kd.R_far (p := ⟨gb193, 0, none⟩) (Kd.R_types HO187.out BK193.out (by decide)) (fun _ hk => hk.2) (.int .i64 t189)) (fun _ hk => hk.2) (.slice Ao62 t190.length co62)) (fun _ h_ => h_.1))))) (Kd.R_lt (by (with_reducible repeat (first | apply Kd.R_alloc | apply Kd.R_drewN | apply Kd.R_drew)); exact (Kd.R_mono (Kd.R_far (p := ⟨gb193, 1, none⟩) (Kd.R_far (p := ⟨gb193, 0, none⟩) (Kd.R_types HO192.out BK193.out (by decide)) (fun _ hk => hk.2) (.int .i64 t189)) (fun _ hk => hk.2) (.slice Ao62 t190.length co62)) (fun _ h_ => h_.1))))) (below_size (by repeat (first | (with_reducible first | exact HB.out | apply below_alloc | apply pw_below_drewN | apply below_drew1 | refine below_set ?_ GE172.out | refine below_set ?_ GE173.out | refine below_set ?_ GE188.out | refine below_set ?_ GE193.out) | exact HB.out)))); have n5_ := Aside0.mk (blk_below (g := gb172) (o := .cells #[.int .i64 a0_0, .slice A0_1 l0_1.length c0_1] 24 (0, 0)) (by refine sqt ?_; refine blk_far ?_ NB172_193.out _; refine sqt ?_; refine blk_far ?_ NB172_193.out _; refine sqt ?_; exact BK172.out) hb); have n6_ := Aside0.mk (blk_below (g := gb173) (o := .cells #[.int .i64 a1_0, .slice A1_1 l1_1.length c1_1] 24 (0, 0)) (by refine sqt ?_; refine blk_far ?_ NB173_193.out _; refine sqt ?_; refine blk_far ?_ NB173_193.out _; refine sqt ?_; exact BK173.out) hb); have n7_ := Aside0.mk (blk_below (g := gb188) (o := .cells #[.int .i64 t184, .slice Ao52 t185.length co52] 29 (0, 0)) (by refine sqt ?_; refine blk_far ?_ NB188_193.out _; refine sqt ?_; refine blk_far ?_ NB188_193.out _; refine sqt ?_; exact BK188.out) hb); have n8_ := Aside0.mk (blk_below (g := gb193) (o := .cells #[.int .i64 t189, .slice Ao62 t190.length co62] 29 (0, 0)) (by refine sqt ?_; refine blk_put (cs := #[.int .i64 t189, .slice none 0 0]) ?_ 1 _ rfl; refine sqt ?_; refine blk_put (cs := #[.int .i64 0, .slice none 0 0]) ?_ 0 _ rfl; refine sqt ?_; exact BK193.out) hb); have n9_ := sqs HB hb; clear HO179; clear HO183; clear HO187; clear HO192; clear BK172; clear BK173; clear BK188; clear BK193; clear HB; have HO179 := n0_; have HO183 := n1_; have HO187 := n2_; have HO192 := n3_; have HO197 := n4_; have BK172 := n5_; have BK173 := n6_; have BK188 := n7_; have BK193 := n8_; have HB := n9_; clear n0_ n1_ n2_ n3_ n4_ n5_ n6_ n7_ n8_ n9_; (try clear hb); (try clear hb2); (try clear hk); (try clear hi); (try clear ho0)) | ((with_reducible refine gate_dst (N := 8) rfl ?_); refine sqx 8 #[.int .i64 0, .slice none 0 0] 29 ?_; intro gb198 hg w66 hbox hb; have n0_ := Aside0.mk (Kd.R_below (by (with_reducible repeat (first | apply Kd.R_alloc | apply Kd.R_drewN | apply Kd.R_drew)); exact HO179.out) hb); have n1_ := Aside0.mk (Kd.R_below (by (with_reducible repeat (first | apply Kd.R_alloc | apply Kd.R_drewN | apply Kd.R_drew)); exact HO183.out) hb); have n2_ := Aside0.mk (Kd.R_below (by (with_reducible repeat (first | apply Kd.R_alloc | apply Kd.R_drewN | apply Kd.R_drew)); exact HO187.out) hb); have n3_ := Aside0.mk (Kd.R_below (by (with_reducible repeat (first | apply Kd.R_alloc | apply Kd.R_drewN | apply Kd.R_drew)); exact HO192.out) hb); have n4_ := Aside0.mk (Kd.R_below (by (with_reducible repeat (first | apply Kd.R_alloc | apply Kd.R_drewN | apply Kd.R_drew)); exact HO197.out) hb); have n5_ := sqb BK172 hb; have n6_ := sqb BK173 hb; have n7_ := sqb BK188 hb; have n8_ := sqb BK193 hb; have n9_ := sqs HB hb; have n10_ := Aside0.mk (hbox); have n11_ := sqg HB hg; have n12_ := sqg HB hg; have n13_ := sqn BK172 hg; have n14_ := sqm BK172 hg; have n15_ := sqn BK173 hg; have n16_ := sqm BK173 hg; have n17_ := sqn BK188 hg; have n18_ := sqm BK188 hg; have n19_ := sqn BK193 hg; have n20_ := sqm BK193 hg; clear HO179; clear HO183; clear HO187; clear HO192; clear HO197; clear BK172; clear BK173; clear BK188; clear BK193; clear HB; have HO179 := n0_; have HO183 := n1_; have HO187 := n2_; have HO192 := n3_; have HO197 := n4_; have BK172 := n5_; have BK173 := n6_; have BK188 := n7_; have BK193 := n8_; have HB := n9_; have BK198 := n10_; have GW198 := n11_; have GE198 := n12_; have NB172_198 := n13_; have NB198_172 := n14_; have NB173_198 := n15_; have NB198_173 := n16_; have NB188_198 := n17_; have NB198_188 := n18_; have NB193_198 := n19_; have NB198_193 := n20_; clear n0_ n1_ n2_ n3_ n4_ n5_ n6_ n7_ n8_ n9_ n10_ n11_ n12_ n13_ n14_ n15_ n16_ n17_ n18_ n19_ n20_; clear hb hbox hg; have hnb67 := NB198_172.out; have hnc67 := NB172_198.out; have hnb68 := NB198_173.out; have hnc68 := NB173_198.out; have hnb69 := NB198_188.out; have hnc69 := NB188_198.out; have hnb70 := NB198_193.out; have hnc70 := NB193_198.out; obtain ⟨hcz71_0, hcz71_1, hfz71_0, hfz71_1⟩ := sqc2 BK198; obtain ⟨Ao72, co72, eo72⟩ := Kd.R_slice HO197.out; subst eo72; obtain ⟨hcz73_0, hcz73_1, hfz73_0, hfz73_1⟩ := sqc2 BK193) | ((with_reducible refine gate_callee (f := 21) rfl ?_); refine sqL (some 35) Try.func21 #[.agg #[.int .i64 t189, .slice Ao62 t190.length co62], .agg #[.int .i64 t194, .slice Ao72 t195.length co72]] ?_; (with_reducible refine (impl_GapsWiden.calls k t189 _ _ t190 t194 _ _ t195 t199 t200 _ ?side1 ?side2 ?side3 ?side4 A24.out).mono ?_); (case side1 => refine (Kd.R_reads' (e := 3) (base := w.heap.size) (ok := fun k_ => ((((True ∧ some k_ ≠ (v178 : Value).ownBlock) ∧ some k_ ≠ (v182 : Value).ownBlock) ∧ some k_ ≠ (.slice Ao52 t185.length co52 : Value).ownBlock) ∧ some k_ ≠ (.slice Ao72 t195.length co72 : Value).ownBlock)) (n := t190.length) (c := co62) ?_).2.2; exact (by (with_reducible repeat (first | apply Kd.R_alloc | apply Kd.R_drewN | apply Kd.R_drew)); exact (Kd.R_mono (Kd.R_far (p := ⟨gb198, 1, none⟩) (Kd.R_far (p := ⟨gb198, 0, none⟩) (Kd.R_types HO192.out BK198.out (by decide)) (fun _ hk => hk.2) (.int .i64 t194)) (fun _ hk => hk.2) (.slice Ao72 t195.length co72)) (fun _ h_ => h_.1)))); (case side2 => exact (Kd.R_reads' HO192.out).2.1); (case side3 => refine (Kd.R_reads' (e := 3) (base := w.heap.size) (ok := fun k_ => ((((True ∧ some k_ ≠ (v178 : Value).ownBlock) ∧ some k_ ≠ (v182 : Value).ownBlock) ∧ some k_ ≠ (.slice Ao52 t185.length co52 : Value).ownBlock) ∧ some k_ ≠ (.slice Ao62 t190.length co62 : Value).ownBlock)) (n := t195.length) (c := co72) ?_).2.2; exact (by (with_reducible repeat (first | apply Kd.R_alloc | apply Kd.R_drewN | apply Kd.R_drew)); exact (Kd.R_mono (Kd.R_far (p := ⟨gb198, 1, none⟩) (Kd.R_far (p := ⟨gb198, 0, none⟩) (Kd.R_types HO197.out BK198.out (by decide)) (fun _ hk => hk.2) (.int .i64 t194)) (fun _ hk => hk.2) (.slice Ao72 t195.length co72)) (fun _ h_ => h_.1)))); (case side4 => exact (Kd.R_reads' HO197.out).2.1); rintro e w74 ⟨v201, rfl, ho0, hb⟩; refine ⟨_, rfl, ?_⟩; have n0_ := Aside0.mk (Kd.R_elder' (by (with_reducible repeat (first | apply Kd.R_alloc | apply Kd.R_drewN | apply Kd.R_drew)); exact (Kd.R_mono (Kd.R_far (p := ⟨gb198, 1, none⟩) (Kd.R_far (p := ⟨gb198, 0, none⟩) (Kd.R_types HO179.out BK198.out (by decide)) (fun _ hk => hk.2) (.int .i64 t194)) (fun _ hk => hk.2) (.slice Ao72 t195.length co72)) (fun _ h_ => h_.1))) (Kd.R_base ho0) hb); have n1_ := Aside0.mk (Kd.R_elder' (by (with_reducible repeat (first | apply Kd.R_alloc | apply Kd.R_drewN | apply Kd.R_drew)); exact (Kd.R_mono (Kd.R_far (p := ⟨gb198, 1, none⟩) (Kd.R_far (p := ⟨gb198, 0, none⟩) (Kd.R_types HO183.out BK198.out (by decide)) (fun _ hk => hk.2) (.int .i64 t194)) (fun _ hk => hk.2) (.slice Ao72 t195.length co72)) (fun _ h_ => h_.1))) (Kd.R_base ho0) hb); have n2_ := Aside0.mk (Kd.R_elder' (by (with_reducible repeat (first | apply Kd.R_alloc | apply Kd.R_drewN | apply Kd.R_drew)); exact (Kd.R_mono (Kd.R_far (p := ⟨gb198, 1, none⟩) (Kd.R_far (p := ⟨gb198, 0, none⟩) (Kd.R_types HO187.out BK198.out (by decide)) (fun _ hk => hk.2) (.int .i64 t194)) (fun _ hk => hk.2) (.slice Ao72 t195.length co72)) (fun _ h_ => h_.1))) (Kd.R_base ho0) hb); have n3_ := Aside0.mk (Kd.R_elder' (by (with_reducible repeat (first | apply Kd.R_alloc | apply Kd.R_drewN | apply Kd.R_drew)); exact (Kd.R_mono (Kd.R_far (p := ⟨gb198, 1, none⟩) (Kd.R_far (p := ⟨gb198, 0, none⟩) (Kd.R_types HO192.out BK198.out (by decide)) (fun _ hk => hk.2) (.int .i64 t194)) (fun _ hk => hk.2) (.slice Ao72 t195.length co72)) (fun _ h_ => h_.1))) (Kd.R_base ho0) hb); have n4_ := Aside0.mk (Kd.R_elder' (by (with_reducible repeat (first | apply Kd.R_alloc | apply Kd.R_drewN | apply Kd.R_drew)); exact (Kd.R_mono (Kd.R_far (p := ⟨gb198, 1, none⟩) (Kd.R_far (p := ⟨gb198, 0, none⟩) (Kd.R_types HO197.out BK198.out (by decide)) (fun _ hk => hk.2) (.int .i64 t194)) (fun _ hk => hk.2) (.slice Ao72 t195.length co72)) (fun _ h_ => h_.1))) (Kd.R_base ho0) hb); have n5_ := Aside0.mk (Kd.R_lower (Kd.R_new' (Kd.R_new' (Kd.R_new' (Kd.R_new' (Kd.R_new' ho0 (Kd.R_lt (by (with_reducible repeat (first | apply Kd.R_alloc | apply Kd.R_drewN | apply Kd.R_drew)); exact (Kd.R_mono (Kd.R_far (p := ⟨gb198, 1, none⟩) (Kd.R_far (p := ⟨gb198, 0, none⟩) (Kd.R_types HO179.out BK198.out (by decide)) (fun _ hk => hk.2) (.int .i64 t194)) (fun _ hk => hk.2) (.slice Ao72 t195.length co72)) (fun _ h_ => h_.1))))) (Kd.R_lt (by (with_reducible repeat (first | apply Kd.R_alloc | apply Kd.R_drewN | apply Kd.R_drew)); exact (Kd.R_mono (Kd.R_far (p := ⟨gb198, 1, none⟩) (Kd.R_far (p := ⟨gb198, 0, none⟩) (Kd.R_types HO183.out BK198.out (by decide)) (fun _ hk => hk.2) (.int .i64 t194)) (fun _ hk => hk.2) (.slice Ao72 t195.length co72)) (fun _ h_ => h_.1))))) (Kd.R_lt (by (with_reducible repeat (first | apply Kd.R_alloc | apply Kd.R_drewN | apply Kd.R_drew)); exact (Kd.R_mono (Kd.R_far (p := ⟨gb198, 1, none⟩) (Kd.R_far (p := ⟨gb198, 0, none⟩) (Kd.R_types HO187.out BK198.out (by decide)) (fun _ hk => hk.2) (.int .i64 t194)) (fun _ hk => hk.2) (.slice Ao72 t195.length co72)) (fun _ h_ => h_.1))))) (Kd.R_lt (by (with_reducible repeat (first | apply Kd.R_alloc | apply Kd.R_drewN | apply Kd.R_drew)); exact (Kd.R_mono (Kd.R_far (p := ⟨gb198, 1, none⟩) (Kd.R_far (p := ⟨gb198, 0, none⟩) (Kd.R_types HO192.out BK198.out (by decide)) (fun _ hk => hk.2) (.int .i64 t194)) (fun _ hk => hk.2) (.slice Ao72 t195.length co72)) (fun _ h_ => h_.1))))) (Kd.R_lt (by (with_reducible repeat (first | apply Kd.R_alloc | apply Kd.R_drewN | apply Kd.R_drew)); exact (Kd.R_mono (Kd.R_far (p := ⟨gb198, 1, none⟩) (Kd.R_far (p := ⟨gb198, 0, none⟩) (Kd.R_types HO197.out BK198.out (by decide)) (fun _ hk => hk.2) (.int .i64 t194)) (fun _ hk => hk.2) (.slice Ao72 t195.length co72)) (fun _ h_ => h_.1))))) (below_size (by repeat (first | (with_reducible first | exact HB.out | apply below_alloc | apply pw_below_drewN | apply below_drew1 | refine below_set ?_ GE172.out | refine below_set ?_ GE173.out | refine below_set ?_ GE188.out | refine below_set ?_ GE193.out | refine below_set ?_ GE198.out) | exact HB.out)))); have n6_ := Aside0.mk (blk_below (g := gb172) (o := .cells #[.int .i64 a0_0, .slice A0_1 l0_1.length c0_1] 24 (0, 0)) (by refine sqt ?_; refine blk_far ?_ NB172_198.out _; refine sqt ?_; refine blk_far ?_ NB172_198.out _; refine sqt ?_; exact BK172.out) hb); have n7_ := Aside0.mk (blk_below (g := gb173) (o := .cells #[.int .i64 a1_0, .slice A1_1 l1_1.length c1_1] 24 (0, 0)) (by refine sqt ?_; refine blk_far ?_ NB173_198.out _; refine sqt ?_; refine blk_far ?_ NB173_198.out _; refine sqt ?_; exact BK173.out) hb); have n8_ := Aside0.mk (blk_below (g := gb188) (o := .cells #[.int .i64 t184, .slice Ao52 t185.length co52] 29 (0, 0)) (by refine sqt ?_; refine blk_far ?_ NB188_198.out _; refine sqt ?_; refine blk_far ?_ NB188_198.out _; refine sqt ?_; exact BK188.out) hb); have n9_ := Aside0.mk (blk_below (g := gb193) (o := .cells #[.int .i64 t189, .slice Ao62 t190.length co62] 29 (0, 0)) (by refine sqt ?_; refine blk_far ?_ NB193_198.out _; refine sqt ?_; refine blk_far ?_ NB193_198.out _; refine sqt ?_; exact BK193.out) hb); have n10_ := Aside0.mk (blk_below (g := gb198) (o := .cells #[.int .i64 t194, .slice Ao72 t195.length co72] 29 (0, 0)) (by refine sqt ?_; refine blk_put (cs := #[.int .i64 t194, .slice none 0 0]) ?_ 1 _ rfl; refine sqt ?_; refine blk_put (cs := #[.int .i64 0, .slice none 0 0]) ?_ 0 _ rfl; refine sqt ?_; exact BK198.out) hb); have n11_ := sqs HB hb; clear HO179; clear HO183; clear HO187; clear HO192; clear HO197; clear BK172; clear BK173; clear BK188; clear BK193; clear BK198; clear HB; have HO179 := n0_; have HO183 := n1_; have HO187 := n2_; have HO192 := n3_; have HO197 := n4_; have HO202 := n5_; have BK172 := n6_; have BK173 := n7_; have BK188 := n8_; have BK193 := n9_; have BK198 := n10_; have HB := n11_; clear n0_ n1_ n2_ n3_ n4_ n5_ n6_ n7_ n8_ n9_ n10_ n11_; (try clear hb); (try clear hb2); (try clear hk); (try clear hi); (try clear ho0)) | ((with_reducible refine gate_dst (N := 9) rfl ?_); refine sqx 9 #[.int .i64 0, .slice none 0 0] 29 ?_; intro gb203 hg w75 hbox hb; have n0_ := Aside0.mk (Kd.R_below (by (with_reducible repeat (first | apply Kd.R_alloc | apply Kd.R_drewN | apply Kd.R_drew)); exact HO179.out) hb); have n1_ := Aside0.mk (Kd.R_below (by (with_reducible repeat (first | apply Kd.R_alloc | apply Kd.R_drewN | apply Kd.R_drew)); exact HO183.out) hb); have n2_ := Aside0.mk (Kd.R_below (by (with_reducible repeat (first | apply Kd.R_alloc | apply Kd.R_drewN | apply Kd.R_drew)); exact HO187.out) hb); have n3_ := Aside0.mk (Kd.R_below (by (with_reducible repeat (first | apply Kd.R_alloc | apply Kd.R_drewN | apply Kd.R_drew)); exact HO192.out) hb); have n4_ := Aside0.mk (Kd.R_below (by (with_reducible repeat (first | apply Kd.R_alloc | apply Kd.R_drewN | apply Kd.R_drew)); exact HO197.out) hb); have n5_ := Aside0.mk (Kd.R_below (by (with_reducible repeat (first | apply Kd.R_alloc | apply Kd.R_drewN | apply Kd.R_drew)); exact HO202.out) hb); have n6_ := sqb BK172 hb; have n7_ := sqb BK173 hb; have n8_ := sqb BK188 hb; have n9_ := sqb BK193 hb; have n10_ := sqb BK198 hb; have n11_ := sqs HB hb; have n12_ := Aside0.mk (hbox); have n13_ := sqg HB hg; have n14_ := sqg HB hg; have n15_ := sqn BK172 hg; have n16_ := sqm BK172 hg; have n17_ := sqn BK173 hg; have n18_ := sqm BK173 hg; have n19_ := sqn BK188 hg; have n20_ := sqm BK188 hg; have n21_ := sqn BK193 hg; have n22_ := sqm BK193 hg; have n23_ := sqn BK198 hg; have n24_ := sqm BK198 hg; clear HO179; clear HO183; clear HO187; clear HO192; clear HO197; clear HO202; clear BK172; clear BK173; clear BK188; clear BK193; clear BK198; clear HB; have HO179 := n0_; have HO183 := n1_; have HO187 := n2_; have HO192 := n3_; have HO197 := n4_; have HO202 := n5_; have BK172 := n6_; have BK173 := n7_; have BK188 := n8_; have BK193 := n9_; have BK198 := n10_; have HB := n11_; have BK203 := n12_; have GW203 := n13_; have GE203 := n14_; have NB172_203 := n15_; have NB203_172 := n16_; have NB173_203 := n17_; have NB203_173 := n18_; have NB188_203 := n19_; have NB203_188 := n20_; have NB193_203 := n21_; have NB203_193 := n22_; have NB198_203 := n23_; have NB203_198 := n24_; clear n0_ n1_ n2_ n3_ n4_ n5_ n6_ n7_ n8_ n9_ n10_ n11_ n12_ n13_ n14_ n15_ n16_ n17_ n18_ n19_ n20_ n21_ n22_ n23_ n24_; clear hb hbox hg; have hnb76 := NB203_172.out; have hnc76 := NB172_203.out; have hnb77 := NB203_173.out; have hnc77 := NB173_203.out; have hnb78 := NB203_188.out; have hnc78 := NB188_203.out; have hnb79 := NB203_193.out; have hnc79 := NB193_203.out; have hnb80 := NB203_198.out; have hnc80 := NB198_203.out; obtain ⟨hcz81_0, hcz81_1, hfz81_0, hfz81_1⟩ := sqc2 BK203; obtain ⟨Ao82, co82, eo82⟩ := Kd.R_slice HO202.out; subst eo82; obtain ⟨hcz83_0, hcz83_1, hfz83_0, hfz83_1⟩ := sqc2 BK188) | ((with_reducible refine gate_callee (f := 19) rfl ?_); refine sqL (some 38) Try.func19 #[.agg #[.int .i64 t199, .slice Ao82 t200.length co82], .agg #[.int .i64 t184, .slice Ao52 t185.length co52]] ?_; (with_reducible refine (laws_eqGaps.calls k t199 _ _ t200 t184 _ _ t185 true _ ?side1 ?side2 ?side3 ?side4 A25.out).mono ?_); (case side1 => refine (Kd.R_reads' (e := 3) (base := w.heap.size) (ok := fun k_ => (((((True ∧ some k_ ≠ (v178 : Value).ownBlock) ∧ some k_ ≠ (v182 : Value).ownBlock) ∧ some k_ ≠ (.slice Ao52 t185.length co52 : Value).ownBlock) ∧ some k_ ≠ (.slice Ao62 t190.length co62 : Value).ownBlock) ∧ some k_ ≠ (.slice Ao72 t195.length co72 : Value).ownBlock)) (n := t200.length) (c := co82) ?_).2.2; exact (by (with_reducible repeat (first | apply Kd.R_alloc | apply Kd.R_drewN | apply Kd.R_drew)); exact (Kd.R_mono (Kd.R_far (p := ⟨gb203, 1, none⟩) (Kd.R_far (p := ⟨gb203, 0, none⟩) (Kd.R_types HO202.out BK203.out (by decide)) (fun _ hk => hk.2) (.int .i64 t199)) (fun _ hk => hk.2) (.slice Ao82 t200.length co82)) (fun _ h_ => h_.1)))); (case side2 => exact (Kd.R_reads' HO202.out).2.1); (case side3 => refine (Kd.R_reads' (e := 3) (base := w.heap.size) (ok := fun k_ => ((((some k_ ≠ (v178 : Value).ownBlock ∧ some k_ ≠ (v182 : Value).ownBlock) ∧ some k_ ≠ (.slice Ao62 t190.length co62 : Value).ownBlock) ∧ some k_ ≠ (.slice Ao72 t195.length co72 : Value).ownBlock) ∧ some k_ ≠ (.slice Ao82 t200.length co82 : Value).ownBlock)) (n := t185.length) (c := co52) ?_).2.2; exact (by (with_reducible repeat (first | apply Kd.R_alloc | apply Kd.R_drewN | apply Kd.R_drew)); exact (Kd.R_mono (Kd.R_far (p := ⟨gb203, 1, none⟩) (Kd.R_far (p := ⟨gb203, 0, none⟩) (Kd.R_types HO187.out BK203.out (by decide)) (fun _ hk => hk.2) (.int .i64 t199)) (fun _ hk => hk.2) (.slice Ao82 t200.length co82)) (fun _ h_ => h_.1)))); (case side4 => exact (Kd.R_reads' HO187.out).2.1); rintro e w84 ⟨rfl, hb⟩; refine ⟨_, rfl, ?_⟩; have n0_ := Aside0.mk (Kd.R_below (by (with_reducible repeat (first | apply Kd.R_alloc | apply Kd.R_drewN | apply Kd.R_drew)); exact (Kd.R_mono (Kd.R_far (p := ⟨gb203, 1, none⟩) (Kd.R_far (p := ⟨gb203, 0, none⟩) (Kd.R_types HO179.out BK203.out (by decide)) (fun _ hk => hk.2) (.int .i64 t199)) (fun _ hk => hk.2) (.slice Ao82 t200.length co82)) (fun _ h_ => h_.1))) hb); have n1_ := Aside0.mk (Kd.R_below (by (with_reducible repeat (first | apply Kd.R_alloc | apply Kd.R_drewN | apply Kd.R_drew)); exact (Kd.R_mono (Kd.R_far (p := ⟨gb203, 1, none⟩) (Kd.R_far (p := ⟨gb203, 0, none⟩) (Kd.R_types HO183.out BK203.out (by decide)) (fun _ hk => hk.2) (.int .i64 t199)) (fun _ hk => hk.2) (.slice Ao82 t200.length co82)) (fun _ h_ => h_.1))) hb); have n2_ := Aside0.mk (Kd.R_below (by (with_reducible repeat (first | apply Kd.R_alloc | apply Kd.R_drewN | apply Kd.R_drew)); exact (Kd.R_mono (Kd.R_far (p := ⟨gb203, 1, none⟩) (Kd.R_far (p := ⟨gb203, 0, none⟩) (Kd.R_types HO187.out BK203.out (by decide)) (fun _ hk => hk.2) (.int .i64 t199)) (fun _ hk => hk.2) (.slice Ao82 t200.length co82)) (fun _ h_ => h_.1))) hb); have n3_ := Aside0.mk (Kd.R_below (by (with_reducible repeat (first | apply Kd.R_alloc | apply Kd.R_drewN | apply Kd.R_drew)); exact (Kd.R_mono (Kd.R_far (p := ⟨gb203, 1, none⟩) (Kd.R_far (p := ⟨gb203, 0, none⟩) (Kd.R_types HO192.out BK203.out (by decide)) (fun _ hk => hk.2) (.int .i64 t199)) (fun _ hk => hk.2) (.slice Ao82 t200.length co82)) (fun _ h_ => h_.1))) hb); have n4_ := Aside0.mk (Kd.R_below (by (with_reducible repeat (first | apply Kd.R_alloc | apply Kd.R_drewN | apply Kd.R_drew)); exact (Kd.R_mono (Kd.R_far (p := ⟨gb203, 1, none⟩) (Kd.R_far (p := ⟨gb203, 0, none⟩) (Kd.R_types HO197.out BK203.out (by decide)) (fun _ hk => hk.2) (.int .i64 t199)) (fun _ hk => hk.2) (.slice Ao82 t200.length co82)) (fun _ h_ => h_.1))) hb); have n5_ := Aside0.mk (Kd.R_below (by (with_reducible repeat (first | apply Kd.R_alloc | apply Kd.R_drewN | apply Kd.R_drew)); exact (Kd.R_mono (Kd.R_far (p := ⟨gb203, 1, none⟩) (Kd.R_far (p := ⟨gb203, 0, none⟩) (Kd.R_types HO202.out BK203.out (by decide)) (fun _ hk => hk.2) (.int .i64 t199)) (fun _ hk => hk.2) (.slice Ao82 t200.length co82)) (fun _ h_ => h_.1))) hb); have n6_ := Aside0.mk (blk_below (g := gb172) (o := .cells #[.int .i64 a0_0, .slice A0_1 l0_1.length c0_1] 24 (0, 0)) (by refine sqt ?_; refine blk_far ?_ NB172_203.out _; refine sqt ?_; refine blk_far ?_ NB172_203.out _; refine sqt ?_; exact BK172.out) hb); have n7_ := Aside0.mk (blk_below (g := gb173) (o := .cells #[.int .i64 a1_0, .slice A1_1 l1_1.length c1_1] 24 (0, 0)) (by refine sqt ?_; refine blk_far ?_ NB173_203.out _; refine sqt ?_; refine blk_far ?_ NB173_203.out _; refine sqt ?_; exact BK173.out) hb); have n8_ := Aside0.mk (blk_below (g := gb188) (o := .cells #[.int .i64 t184, .slice Ao52 t185.length co52] 29 (0, 0)) (by refine sqt ?_; refine blk_far ?_ NB188_203.out _; refine sqt ?_; refine blk_far ?_ NB188_203.out _; refine sqt ?_; exact BK188.out) hb); have n9_ := Aside0.mk (blk_below (g := gb193) (o := .cells #[.int .i64 t189, .slice Ao62 t190.length co62] 29 (0, 0)) (by refine sqt ?_; refine blk_far ?_ NB193_203.out _; refine sqt ?_; refine blk_far ?_ NB193_203.out _; refine sqt ?_; exact BK193.out) hb); have n10_ := Aside0.mk (blk_below (g := gb198) (o := .cells #[.int .i64 t194, .slice Ao72 t195.length co72] 29 (0, 0)) (by refine sqt ?_; refine blk_far ?_ NB198_203.out _; refine sqt ?_; refine blk_far ?_ NB198_203.out _; refine sqt ?_; exact BK198.out) hb); have n11_ := Aside0.mk (blk_below (g := gb203) (o := .cells #[.int .i64 t199, .slice Ao82 t200.length co82] 29 (0, 0)) (by refine sqt ?_; refine blk_put (cs := #[.int .i64 t199, .slice none 0 0]) ?_ 1 _ rfl; refine sqt ?_; refine blk_put (cs := #[.int .i64 0, .slice none 0 0]) ?_ 0 _ rfl; refine sqt ?_; exact BK203.out) hb); have n12_ := sqs HB hb; clear HO179; clear HO183; clear HO187; clear HO192; clear HO197; clear HO202; clear BK172; clear BK173; clear BK188; clear BK193; clear BK198; clear BK203; clear HB; have HO179 := n0_; have HO183 := n1_; have HO187 := n2_; have HO192 := n3_; have HO197 := n4_; have HO202 := n5_; have BK172 := n6_; have BK173 := n7_; have BK188 := n8_; have BK193 := n9_; have BK198 := n10_; have BK203 := n11_; have HB := n12_; clear n0_ n1_ n2_ n3_ n4_ n5_ n6_ n7_ n8_ n9_ n10_ n11_ n12_; (try clear hb); (try clear hb2); (try clear hk); (try clear hi)))
            replace HO179 := Aside0.mk (Kd.R_drew HO179.out)
            replace HO183 := Aside0.mk (Kd.R_drew HO183.out)
            replace HO187 := Aside0.mk (Kd.R_drew HO187.out)
            replace HO192 := Aside0.mk (Kd.R_drew HO192.out)
            replace HO197 := Aside0.mk (Kd.R_drew HO197.out)
            replace HO202 := Aside0.mk (Kd.R_drew HO202.out)
            replace BK172 := Aside0.mk (blk_drew BK172.out)
            replace BK173 := Aside0.mk (blk_drew BK173.out)
            replace BK188 := Aside0.mk (blk_drew BK188.out)
            replace BK193 := Aside0.mk (blk_drew BK193.out)
            replace BK198 := Aside0.mk (blk_drew BK198.out)
            replace BK203 := Aside0.mk (blk_drew BK203.out)
            replace HB := Aside0.mk (below_drew1 HB.out)
            refine start_ (n := 5) (S := fun w' => w'.cell? ⟨gb193, 0, none⟩ = some (.int .i64 t189) ∧ w'.cell? ⟨gb193, 1, none⟩ = some (.slice Ao62 t190.length co62) ∧ w'.cell? ⟨gb172, 0, none⟩ = some (.int .i64 a0_0) ∧ w'.cell? ⟨gb172, 1, none⟩ = some (.slice A0_1 l0_1.length c0_1)) (ds := []) #[false, false, false, false, false] (by kernel_rfl) rfl rfl ⟨(blk_cell BK193.out 0).trans rfl, (blk_cell BK193.out 1).trans rfl, (blk_cell BK172.out 0).trans rfl, (blk_cell BK172.out 1).trans rfl⟩ (fun hHeld => ?_)
            generalize w84.drew = w85 at HO179 HO183 HO187 HO192 HO197 HO202 BK172 BK173 BK188 BK193 BK198 BK203 HB hHeld ⊢
            refine take_ (i := 0) (N := some 40) (v := ?_) (a' := ?_) #[true, false, false, false, false] rfl rfl (by kernel_rfl) (fun _ _ _ h => h) (Or.inl ⟨by rfl, ?_⟩) hHeld ?_ ?_
            rotate_left
            · rintro w' ⟨s0, s1, s2, s3⟩
              go_simp
              with_reducible rfl
            rotate_left
            · simp only [Act.put, List.setIfInBounds_toArray, List.set_cons_zero, List.set_cons_succ, i64_w, i32_w]
              rfl
            refine take_ (i := 1) (N := some 41) (v := ?_) (a' := ?_) #[true, true, false, false, false] rfl rfl (by kernel_rfl) (fun _ _ _ h => h) (Or.inl ⟨by rfl, ?_⟩) hHeld ?_ ?_
            rotate_left
            · rintro w' ⟨s0, s1, s2, s3⟩
              go_simp
              with_reducible rfl
            rotate_left
            · simp only [Act.put, List.setIfInBounds_toArray, List.set_cons_zero, List.set_cons_succ, i64_w, i32_w]
              rfl
            refine one_ (i := 2) (N := some 42) #[true, true, true, false, false] rfl rfl (by kernel_rfl) (by decide) (fun K hK => ?_)
            refine sqG Try.func16 #[.agg #[.int .i64 a0_0, .slice A0_1 l0_1.length c0_1]] ?_
            with_reducible refine (laws_toGaps.calls k a0_0 _ _ l0_1 t205 t206 _ ?side1 ?side2 A27.out).mono ?_
            (case side1 => repeat (first | exact (Kd.C_below HR0_1.out HB.out) | (with_reducible refine Kd.C_alloc ?_ _) | (with_reducible refine Kd.C_drewN ?_ _) | (with_reducible refine Kd.C_drew ?_)))
            (case side2 => exact HC0_1.out)
            rintro e w86 ⟨v207, rfl, ho0, hb⟩
            refine ⟨_, rfl, ?_⟩
            have n0_ := Aside0.mk (Kd.R_elder' (by (with_reducible repeat (first | apply Kd.R_alloc | apply Kd.R_drewN | apply Kd.R_drew)); exact HO179.out) (Kd.R_base ho0) hb)
            have n1_ := Aside0.mk (Kd.R_elder' (by (with_reducible repeat (first | apply Kd.R_alloc | apply Kd.R_drewN | apply Kd.R_drew)); exact HO183.out) (Kd.R_base ho0) hb)
            have n2_ := Aside0.mk (Kd.R_elder' (by (with_reducible repeat (first | apply Kd.R_alloc | apply Kd.R_drewN | apply Kd.R_drew)); exact HO187.out) (Kd.R_base ho0) hb)
            have n3_ := Aside0.mk (Kd.R_elder' (by (with_reducible repeat (first | apply Kd.R_alloc | apply Kd.R_drewN | apply Kd.R_drew)); exact HO192.out) (Kd.R_base ho0) hb)
            have n4_ := Aside0.mk (Kd.R_elder' (by (with_reducible repeat (first | apply Kd.R_alloc | apply Kd.R_drewN | apply Kd.R_drew)); exact HO197.out) (Kd.R_base ho0) hb)
            have n5_ := Aside0.mk (Kd.R_elder' (by (with_reducible repeat (first | apply Kd.R_alloc | apply Kd.R_drewN | apply Kd.R_drew)); exact HO202.out) (Kd.R_base ho0) hb)
            have n6_ := Aside0.mk (Kd.R_lower (Kd.R_new' (Kd.R_new' (Kd.R_new' (Kd.R_new' (Kd.R_new' (Kd.R_new' ho0 (Kd.R_lt (by (with_reducible repeat (first | apply Kd.R_alloc | apply Kd.R_drewN | apply Kd.R_drew)); exact HO179.out))) (Kd.R_lt (by (with_reducible repeat (first | apply Kd.R_alloc | apply Kd.R_drewN | apply Kd.R_drew)); exact HO183.out))) (Kd.R_lt (by (with_reducible repeat (first | apply Kd.R_alloc | apply Kd.R_drewN | apply Kd.R_drew)); exact HO187.out))) (Kd.R_lt (by (with_reducible repeat (first | apply Kd.R_alloc | apply Kd.R_drewN | apply Kd.R_drew)); exact HO192.out))) (Kd.R_lt (by (with_reducible repeat (first | apply Kd.R_alloc | apply Kd.R_drewN | apply Kd.R_drew)); exact HO197.out))) (Kd.R_lt (by (with_reducible repeat (first | apply Kd.R_alloc | apply Kd.R_drewN | apply Kd.R_drew)); exact HO202.out))) (below_size (by repeat (first | (with_reducible first | exact HB.out | apply below_alloc | apply pw_below_drewN | apply below_drew1 | refine below_set ?_ GE172.out | refine below_set ?_ GE173.out | refine below_set ?_ GE188.out | refine below_set ?_ GE193.out | refine below_set ?_ GE198.out | refine below_set ?_ GE203.out) | exact HB.out))))
            have n7_ := sqb BK172 hb
            have n8_ := sqb BK173 hb
            have n9_ := sqb BK188 hb
            have n10_ := sqb BK193 hb
            have n11_ := sqb BK198 hb
            have n12_ := sqb BK203 hb
            have n13_ := sqs HB hb
            clear HO179
            clear HO183
            clear HO187
            clear HO192
            clear HO197
            clear HO202
            clear BK172
            clear BK173
            clear BK188
            clear BK193
            clear BK198
            clear BK203
            clear HB
            have HO179 := n0_
            have HO183 := n1_
            have HO187 := n2_
            have HO192 := n3_
            have HO197 := n4_
            have HO202 := n5_
            have HO208 := n6_
            have BK172 := n7_
            have BK173 := n8_
            have BK188 := n9_
            have BK193 := n10_
            have BK198 := n11_
            have BK203 := n12_
            have HB := n13_
            clear n0_ n1_ n2_ n3_ n4_ n5_ n6_ n7_ n8_ n9_ n10_ n11_ n12_ n13_
            (try clear hb)
            (try clear hb2)
            (try clear hk)
            (try clear hi)
            (try clear ho0)
            obtain ⟨Ao87, co87, eo87⟩ := Kd.R_slice HO208.out
            (first | subst eo87 | (injection eo87 with f1_ f2_ f3_; have f4_ := f1_.symm; have f5_ := f3_.symm; clear f1_ f2_ f3_; subst f4_; subst f5_))
            refine hK.out _ _ sqz (fun hHeld => ?_)
            clear hK K
            refine sqnm ?_
            refine one_ (i := 3) (N := some 43) #[true, true, true, true, false] rfl rfl (by kernel_rfl) (by decide) (fun K hK => ?_)
            refine sqG Try.func19 #[.agg #[.int .i64 t189, .slice Ao62 t190.length co62], .agg #[.int .i64 t205, .slice Ao87 t206.length co87]] ?_
            with_reducible refine (laws_eqGaps.calls k t189 _ _ t190 t205 _ _ t206 true _ ?side1 ?side2 ?side3 ?side4 A28.out).mono ?_
            (case side1 => repeat (first | exact (Kd.R_reads' HO192.out).2.2 | (with_reducible refine Kd.C_alloc ?_ _) | (with_reducible refine Kd.C_drewN ?_ _) | (with_reducible refine Kd.C_drew ?_)))
            (case side2 => exact (Kd.R_reads' HO192.out).2.1)
            (case side3 => repeat (first | exact (Kd.R_reads' HO208.out).2.2 | (with_reducible refine Kd.C_alloc ?_ _) | (with_reducible refine Kd.C_drewN ?_ _) | (with_reducible refine Kd.C_drew ?_)))
            (case side4 => exact (Kd.R_reads' HO208.out).2.1)
            rintro e w88 ⟨rfl, hb⟩
            refine ⟨_, rfl, ?_⟩
            have n0_ := Aside0.mk (Kd.R_below (by (with_reducible repeat (first | apply Kd.R_alloc | apply Kd.R_drewN | apply Kd.R_drew)); exact HO179.out) hb)
            have n1_ := Aside0.mk (Kd.R_below (by (with_reducible repeat (first | apply Kd.R_alloc | apply Kd.R_drewN | apply Kd.R_drew)); exact HO183.out) hb)
            have n2_ := Aside0.mk (Kd.R_below (by (with_reducible repeat (first | apply Kd.R_alloc | apply Kd.R_drewN | apply Kd.R_drew)); exact HO187.out) hb)
            have n3_ := Aside0.mk (Kd.R_below (by (with_reducible repeat (first | apply Kd.R_alloc | apply Kd.R_drewN | apply Kd.R_drew)); exact HO192.out) hb)
            have n4_ := Aside0.mk (Kd.R_below (by (with_reducible repeat (first | apply Kd.R_alloc | apply Kd.R_drewN | apply Kd.R_drew)); exact HO197.out) hb)
            have n5_ := Aside0.mk (Kd.R_below (by (with_reducible repeat (first | apply Kd.R_alloc | apply Kd.R_drewN | apply Kd.R_drew)); exact HO202.out) hb)
            have n6_ := Aside0.mk (Kd.R_below (by (with_reducible repeat (first | apply Kd.R_alloc | apply Kd.R_drewN | apply Kd.R_drew)); exact HO208.out) hb)
            have n7_ := sqb BK172 hb
            have n8_ := sqb BK173 hb
            have n9_ := sqb BK188 hb
            have n10_ := sqb BK193 hb
            have n11_ := sqb BK198 hb
            have n12_ := sqb BK203 hb
            have n13_ := sqs HB hb
            clear HO179
            clear HO183
            clear HO187
            clear HO192
            clear HO197
            clear HO202
            clear HO208
            clear BK172
            clear BK173
            clear BK188
            clear BK193
            clear BK198
            clear BK203
            clear HB
            have HO179 := n0_
            have HO183 := n1_
            have HO187 := n2_
            have HO192 := n3_
            have HO197 := n4_
            have HO202 := n5_
            have HO208 := n6_
            have BK172 := n7_
            have BK173 := n8_
            have BK188 := n9_
            have BK193 := n10_
            have BK198 := n11_
            have BK203 := n12_
            have HB := n13_
            clear n0_ n1_ n2_ n3_ n4_ n5_ n6_ n7_ n8_ n9_ n10_ n11_ n12_ n13_
            (try clear hb)
            refine hK.out _ _ sqz (fun hHeld => ?_)
            clear hK K
            refine sqnm ?_
            refine pure_ (i := 4) (N := some 44) (v := ?_) (a' := ?_) #[true, true, true, true, true] rfl rfl (by kernel_rfl) (fun _ _ _ h => h) (Or.inl ⟨by rfl, ?_⟩) ?_ ?_
            rotate_left
            · intro w'
              go_simp
              with_reducible rfl
            rotate_left
            · simp only [Act.put, List.setIfInBounds_toArray, List.set_cons_zero, List.set_cons_succ, i64_w, i32_w]
              rfl
            refine done_ (by kernel_rfl) ?_
            try go_wp2
            replace HO179 := Aside0.mk (Kd.R_drew HO179.out)
            replace HO183 := Aside0.mk (Kd.R_drew HO183.out)
            replace HO187 := Aside0.mk (Kd.R_drew HO187.out)
            replace HO192 := Aside0.mk (Kd.R_drew HO192.out)
            replace HO197 := Aside0.mk (Kd.R_drew HO197.out)
            replace HO202 := Aside0.mk (Kd.R_drew HO202.out)
            replace HO208 := Aside0.mk (Kd.R_drew HO208.out)
            replace BK172 := Aside0.mk (blk_drew BK172.out)
            replace BK173 := Aside0.mk (blk_drew BK173.out)
            replace BK188 := Aside0.mk (blk_drew BK188.out)
            replace BK193 := Aside0.mk (blk_drew BK193.out)
            replace BK198 := Aside0.mk (blk_drew BK198.out)
            replace BK203 := Aside0.mk (blk_drew BK203.out)
            replace HB := Aside0.mk (below_drew1 HB.out)
            refine start_ (n := 5) (S := fun w' => w'.cell? ⟨gb198, 0, none⟩ = some (.int .i64 t194) ∧ w'.cell? ⟨gb198, 1, none⟩ = some (.slice Ao72 t195.length co72) ∧ w'.cell? ⟨gb173, 0, none⟩ = some (.int .i64 a1_0) ∧ w'.cell? ⟨gb173, 1, none⟩ = some (.slice A1_1 l1_1.length c1_1)) (ds := []) #[false, false, false, false, false] (by kernel_rfl) rfl rfl ⟨(blk_cell BK198.out 0).trans rfl, (blk_cell BK198.out 1).trans rfl, (blk_cell BK173.out 0).trans rfl, (blk_cell BK173.out 1).trans rfl⟩ (fun hHeld => ?_)
            generalize w88.drew = w89 at HO179 HO183 HO187 HO192 HO197 HO202 HO208 BK172 BK173 BK188 BK193 BK198 BK203 HB hHeld ⊢
            refine take_ (i := 0) (N := some 45) (v := ?_) (a' := ?_) #[true, false, false, false, false] rfl rfl (by kernel_rfl) (fun _ _ _ h => h) (Or.inl ⟨by rfl, ?_⟩) hHeld ?_ ?_
            rotate_left
            · rintro w' ⟨s0, s1, s2, s3⟩
              go_simp
              with_reducible rfl
            rotate_left
            · simp only [Act.put, List.setIfInBounds_toArray, List.set_cons_zero, List.set_cons_succ, i64_w, i32_w]
              rfl
            refine take_ (i := 1) (N := some 46) (v := ?_) (a' := ?_) #[true, true, false, false, false] rfl rfl (by kernel_rfl) (fun _ _ _ h => h) (Or.inl ⟨by rfl, ?_⟩) hHeld ?_ ?_
            rotate_left
            · rintro w' ⟨s0, s1, s2, s3⟩
              go_simp
              with_reducible rfl
            rotate_left
            · simp only [Act.put, List.setIfInBounds_toArray, List.set_cons_zero, List.set_cons_succ, i64_w, i32_w]
              rfl
            refine one_ (i := 2) (N := some 47) #[true, true, true, false, false] rfl rfl (by kernel_rfl) (by decide) (fun K hK => ?_)
            refine sqG Try.func16 #[.agg #[.int .i64 a1_0, .slice A1_1 l1_1.length c1_1]] ?_
            with_reducible refine (laws_toGaps.calls k a1_0 _ _ l1_1 t210 t211 _ ?side1 ?side2 A30.out).mono ?_
            (case side1 => repeat (first | exact (Kd.C_below HR1_1.out HB.out) | (with_reducible refine Kd.C_alloc ?_ _) | (with_reducible refine Kd.C_drewN ?_ _) | (with_reducible refine Kd.C_drew ?_)))
            (case side2 => exact HC1_1.out)
            rintro e w90 ⟨v212, rfl, ho0, hb⟩
            refine ⟨_, rfl, ?_⟩
            have n0_ := Aside0.mk (Kd.R_elder' (by (with_reducible repeat (first | apply Kd.R_alloc | apply Kd.R_drewN | apply Kd.R_drew)); exact HO179.out) (Kd.R_base ho0) hb)
            have n1_ := Aside0.mk (Kd.R_elder' (by (with_reducible repeat (first | apply Kd.R_alloc | apply Kd.R_drewN | apply Kd.R_drew)); exact HO183.out) (Kd.R_base ho0) hb)
            have n2_ := Aside0.mk (Kd.R_elder' (by (with_reducible repeat (first | apply Kd.R_alloc | apply Kd.R_drewN | apply Kd.R_drew)); exact HO187.out) (Kd.R_base ho0) hb)
            have n3_ := Aside0.mk (Kd.R_elder' (by (with_reducible repeat (first | apply Kd.R_alloc | apply Kd.R_drewN | apply Kd.R_drew)); exact HO192.out) (Kd.R_base ho0) hb)
            have n4_ := Aside0.mk (Kd.R_elder' (by (with_reducible repeat (first | apply Kd.R_alloc | apply Kd.R_drewN | apply Kd.R_drew)); exact HO197.out) (Kd.R_base ho0) hb)
            have n5_ := Aside0.mk (Kd.R_elder' (by (with_reducible repeat (first | apply Kd.R_alloc | apply Kd.R_drewN | apply Kd.R_drew)); exact HO202.out) (Kd.R_base ho0) hb)
            have n6_ := Aside0.mk (Kd.R_elder' (by (with_reducible repeat (first | apply Kd.R_alloc | apply Kd.R_drewN | apply Kd.R_drew)); exact HO208.out) (Kd.R_base ho0) hb)
            have n7_ := Aside0.mk (Kd.R_lower (Kd.R_new' (Kd.R_new' (Kd.R_new' (Kd.R_new' (Kd.R_new' (Kd.R_new' (Kd.R_new' ho0 (Kd.R_lt (by (with_reducible repeat (first | apply Kd.R_alloc | apply Kd.R_drewN | apply Kd.R_drew)); exact HO179.out))) (Kd.R_lt (by (with_reducible repeat (first | apply Kd.R_alloc | apply Kd.R_drewN | apply Kd.R_drew)); exact HO183.out))) (Kd.R_lt (by (with_reducible repeat (first | apply Kd.R_alloc | apply Kd.R_drewN | apply Kd.R_drew)); exact HO187.out))) (Kd.R_lt (by (with_reducible repeat (first | apply Kd.R_alloc | apply Kd.R_drewN | apply Kd.R_drew)); exact HO192.out))) (Kd.R_lt (by (with_reducible repeat (first | apply Kd.R_alloc | apply Kd.R_drewN | apply Kd.R_drew)); exact HO197.out))) (Kd.R_lt (by (with_reducible repeat (first | apply Kd.R_alloc | apply Kd.R_drewN | apply Kd.R_drew)); exact HO202.out))) (Kd.R_lt (by (with_reducible repeat (first | apply Kd.R_alloc | apply Kd.R_drewN | apply Kd.R_drew)); exact HO208.out))) (below_size (by repeat (first | (with_reducible first | exact HB.out | apply below_alloc | apply pw_below_drewN | apply below_drew1 | refine below_set ?_ GE172.out | refine below_set ?_ GE173.out | refine below_set ?_ GE188.out | refine below_set ?_ GE193.out | refine below_set ?_ GE198.out | refine below_set ?_ GE203.out) | exact HB.out))))
            have n8_ := sqb BK172 hb
            have n9_ := sqb BK173 hb
            have n10_ := sqb BK188 hb
            have n11_ := sqb BK193 hb
            have n12_ := sqb BK198 hb
            have n13_ := sqb BK203 hb
            have n14_ := sqs HB hb
            clear HO179
            clear HO183
            clear HO187
            clear HO192
            clear HO197
            clear HO202
            clear HO208
            clear BK172
            clear BK173
            clear BK188
            clear BK193
            clear BK198
            clear BK203
            clear HB
            have HO179 := n0_
            have HO183 := n1_
            have HO187 := n2_
            have HO192 := n3_
            have HO197 := n4_
            have HO202 := n5_
            have HO208 := n6_
            have HO213 := n7_
            have BK172 := n8_
            have BK173 := n9_
            have BK188 := n10_
            have BK193 := n11_
            have BK198 := n12_
            have BK203 := n13_
            have HB := n14_
            clear n0_ n1_ n2_ n3_ n4_ n5_ n6_ n7_ n8_ n9_ n10_ n11_ n12_ n13_ n14_
            (try clear hb)
            (try clear hb2)
            (try clear hk)
            (try clear hi)
            (try clear ho0)
            obtain ⟨Ao91, co91, eo91⟩ := Kd.R_slice HO213.out
            (first | subst eo91 | (injection eo91 with f1_ f2_ f3_; have f4_ := f1_.symm; have f5_ := f3_.symm; clear f1_ f2_ f3_; subst f4_; subst f5_))
            refine hK.out _ _ sqz (fun hHeld => ?_)
            clear hK K
            refine sqnm ?_
            refine one_ (i := 3) (N := some 48) #[true, true, true, true, false] rfl rfl (by kernel_rfl) (by decide) (fun K hK => ?_)
            refine sqG Try.func19 #[.agg #[.int .i64 t194, .slice Ao72 t195.length co72], .agg #[.int .i64 t210, .slice Ao91 t211.length co91]] ?_
            with_reducible refine (laws_eqGaps.calls k t194 _ _ t195 t210 _ _ t211 true _ ?side1 ?side2 ?side3 ?side4 A31.out).mono ?_
            (case side1 => repeat (first | exact (Kd.R_reads' HO197.out).2.2 | (with_reducible refine Kd.C_alloc ?_ _) | (with_reducible refine Kd.C_drewN ?_ _) | (with_reducible refine Kd.C_drew ?_)))
            (case side2 => exact (Kd.R_reads' HO197.out).2.1)
            (case side3 => repeat (first | exact (Kd.R_reads' HO213.out).2.2 | (with_reducible refine Kd.C_alloc ?_ _) | (with_reducible refine Kd.C_drewN ?_ _) | (with_reducible refine Kd.C_drew ?_)))
            (case side4 => exact (Kd.R_reads' HO213.out).2.1)
            rintro e w92 ⟨rfl, hb⟩
            refine ⟨_, rfl, ?_⟩
            have n0_ := Aside0.mk (Kd.R_below (by (with_reducible repeat (first | apply Kd.R_alloc | apply Kd.R_drewN | apply Kd.R_drew)); exact HO179.out) hb)
            have n1_ := Aside0.mk (Kd.R_below (by (with_reducible repeat (first | apply Kd.R_alloc | apply Kd.R_drewN | apply Kd.R_drew)); exact HO183.out) hb)
            have n2_ := Aside0.mk (Kd.R_below (by (with_reducible repeat (first | apply Kd.R_alloc | apply Kd.R_drewN | apply Kd.R_drew)); exact HO187.out) hb)
            have n3_ := Aside0.mk (Kd.R_below (by (with_reducible repeat (first | apply Kd.R_alloc | apply Kd.R_drewN | apply Kd.R_drew)); exact HO192.out) hb)
            have n4_ := Aside0.mk (Kd.R_below (by (with_reducible repeat (first | apply Kd.R_alloc | apply Kd.R_drewN | apply Kd.R_drew)); exact HO197.out) hb)
            have n5_ := Aside0.mk (Kd.R_below (by (with_reducible repeat (first | apply Kd.R_alloc | apply Kd.R_drewN | apply Kd.R_drew)); exact HO202.out) hb)
            have n6_ := Aside0.mk (Kd.R_below (by (with_reducible repeat (first | apply Kd.R_alloc | apply Kd.R_drewN | apply Kd.R_drew)); exact HO208.out) hb)
            have n7_ := Aside0.mk (Kd.R_below (by (with_reducible repeat (first | apply Kd.R_alloc | apply Kd.R_drewN | apply Kd.R_drew)); exact HO213.out) hb)
            have n8_ := sqb BK172 hb
            have n9_ := sqb BK173 hb
            have n10_ := sqb BK188 hb
            have n11_ := sqb BK193 hb
            have n12_ := sqb BK198 hb
            have n13_ := sqb BK203 hb
            have n14_ := sqs HB hb
            clear HO179
            clear HO183
            clear HO187
            clear HO192
            clear HO197
            clear HO202
            clear HO208
            clear HO213
            clear BK172
            clear BK173
            clear BK188
            clear BK193
            clear BK198
            clear BK203
            clear HB
            have HO179 := n0_
            have HO183 := n1_
            have HO187 := n2_
            have HO192 := n3_
            have HO197 := n4_
            have HO202 := n5_
            have HO208 := n6_
            have HO213 := n7_
            have BK172 := n8_
            have BK173 := n9_
            have BK188 := n10_
            have BK193 := n11_
            have BK198 := n12_
            have BK203 := n13_
            have HB := n14_
            clear n0_ n1_ n2_ n3_ n4_ n5_ n6_ n7_ n8_ n9_ n10_ n11_ n12_ n13_ n14_
            (try clear hb)
            refine hK.out _ _ sqz (fun hHeld => ?_)
            clear hK K
            refine sqnm ?_
            refine pure_ (i := 4) (N := some 49) (v := ?_) (a' := ?_) #[true, true, true, true, true] rfl rfl (by kernel_rfl) (fun _ _ _ h => h) (Or.inl ⟨by rfl, ?_⟩) ?_ ?_
            rotate_left
            · intro w'
              go_simp
              with_reducible rfl
            rotate_left
            · simp only [Act.put, List.setIfInBounds_toArray, List.set_cons_zero, List.set_cons_succ, i64_w, i32_w]
              rfl
            refine done_ (by kernel_rfl) ?_
            obtain ⟨hcz93_0, hcz93_1, hfz93_0, hfz93_1⟩ := sqc2 BK193
            go_upto_region 21 with (first | ((with_reducible refine gate_callee (f := 22) rfl ?_); refine sqL (some 52) Try.func22 #[.agg #[.int .i64 t189, .slice Ao62 t190.length co62], .int .i64 1] ?_; (with_reducible refine (laws_markGaps.calls k t189 (fun k_ => some k_ = (.slice Ao62 t190.length co62 : Value).ownBlock) (.slice Ao62 t190.length co62) t190 1 t215 t216 w _ ?side1 ?side2 A33.out).mono ?_); (case side1 => repeat (first | (with_reducible first | exact HB.out | apply below_alloc | apply pw_below_drewN | apply below_drew1 | refine below_set ?_ GE172.out | refine below_set ?_ GE173.out | refine below_set ?_ GE188.out | refine below_set ?_ GE193.out | refine below_set ?_ GE198.out | refine below_set ?_ GE203.out) | exact HB.out)); (case side2 => exact Kd.R_tight rfl HO192.out); rintro e w94 ⟨rfl, hy0, hb, hkp⟩; refine ⟨_, rfl, ?_⟩; have n0_ := Aside0.mk (blk_kept (by refine sqt ?_; exact BK172.out) hkp (fun hs_ => (fun e_ => (Kd.R_ne HO192.out BK172.out (by decide)) e_) hs_)); have n1_ := Aside0.mk (blk_kept (by refine sqt ?_; exact BK173.out) hkp (fun hs_ => (fun e_ => (Kd.R_ne HO192.out BK173.out (by decide)) e_) hs_)); have n2_ := Aside0.mk (Kd.R_mono (ok' := fun k_ => some k_ ≠ (v182 : Value).ownBlock ∧ some k_ ≠ (.slice Ao52 t185.length co52 : Value).ownBlock ∧ some k_ ≠ (.slice Ao62 t190.length co62 : Value).ownBlock ∧ some k_ ≠ (.slice Ao72 t195.length co72 : Value).ownBlock ∧ some k_ ≠ (.slice Ao82 t200.length co82 : Value).ownBlock ∧ some k_ ≠ (.slice Ao87 t206.length co87 : Value).ownBlock ∧ some k_ ≠ (.slice Ao91 t211.length co91 : Value).ownBlock) (Kd.R_keptB (HO179.out) hkp (fun k_ hk_ hs_ => (hk_.1.1.1.1.2) hs_)) (fun k_ hk_ => ⟨hk_.1.1.1.1.1.1.1, hk_.1.1.1.1.1.1.2, hk_.1.1.1.1.1.2, hk_.1.1.1.1.2, hk_.1.1.1.2, hk_.1.1.2, hk_.1.2⟩)); have n3_ := Aside0.mk (Kd.R_mono (ok' := fun k_ => some k_ ≠ (v178 : Value).ownBlock ∧ some k_ ≠ (.slice Ao52 t185.length co52 : Value).ownBlock ∧ some k_ ≠ (.slice Ao62 t190.length co62 : Value).ownBlock ∧ some k_ ≠ (.slice Ao72 t195.length co72 : Value).ownBlock ∧ some k_ ≠ (.slice Ao82 t200.length co82 : Value).ownBlock ∧ some k_ ≠ (.slice Ao87 t206.length co87 : Value).ownBlock ∧ some k_ ≠ (.slice Ao91 t211.length co91 : Value).ownBlock) (Kd.R_keptB (HO183.out) hkp (fun k_ hk_ hs_ => (hk_.1.1.1.1.2) hs_)) (fun k_ hk_ => ⟨hk_.1.1.1.1.1.1.1, hk_.1.1.1.1.1.1.2, hk_.1.1.1.1.1.2, hk_.1.1.1.1.2, hk_.1.1.1.2, hk_.1.1.2, hk_.1.2⟩)); have n4_ := Aside0.mk (Kd.R_mono (ok' := fun k_ => some k_ ≠ (v178 : Value).ownBlock ∧ some k_ ≠ (v182 : Value).ownBlock ∧ some k_ ≠ (.slice Ao62 t190.length co62 : Value).ownBlock ∧ some k_ ≠ (.slice Ao72 t195.length co72 : Value).ownBlock ∧ some k_ ≠ (.slice Ao82 t200.length co82 : Value).ownBlock ∧ some k_ ≠ (.slice Ao87 t206.length co87 : Value).ownBlock ∧ some k_ ≠ (.slice Ao91 t211.length co91 : Value).ownBlock) (Kd.R_keptB (HO187.out) hkp (fun k_ hk_ hs_ => (hk_.1.1.1.1.2) hs_)) (fun k_ hk_ => ⟨hk_.1.1.1.1.1.1.1, hk_.1.1.1.1.1.1.2, hk_.1.1.1.1.1.2, hk_.1.1.1.1.2, hk_.1.1.1.2, hk_.1.1.2, hk_.1.2⟩)); have n5_ := Aside0.mk (blk_kept (by refine sqt ?_; exact BK188.out) hkp (fun hs_ => (fun e_ => (Kd.R_ne HO192.out BK188.out (by decide)) e_) hs_)); have n6_ := Aside0.mk (Kd.R_reok rfl hy0 (fun k_ e_ => HO192.out.1 k_ e_)); have n7_ := Aside0.mk (blk_kept (by refine sqt ?_; exact BK193.out) hkp (fun hs_ => (fun e_ => (Kd.R_ne HO192.out BK193.out (by decide)) e_) hs_)); have n8_ := Aside0.mk (Kd.R_mono (ok' := fun k_ => some k_ ≠ (v178 : Value).ownBlock ∧ some k_ ≠ (v182 : Value).ownBlock ∧ some k_ ≠ (.slice Ao52 t185.length co52 : Value).ownBlock ∧ some k_ ≠ (.slice Ao62 t190.length co62 : Value).ownBlock ∧ some k_ ≠ (.slice Ao82 t200.length co82 : Value).ownBlock ∧ some k_ ≠ (.slice Ao87 t206.length co87 : Value).ownBlock ∧ some k_ ≠ (.slice Ao91 t211.length co91 : Value).ownBlock) (Kd.R_keptB (HO197.out) hkp (fun k_ hk_ hs_ => (hk_.1.1.1.2) hs_)) (fun k_ hk_ => ⟨hk_.1.1.1.1.1.1.1.2, hk_.1.1.1.1.1.1.2, hk_.1.1.1.1.1.2, hk_.1.1.1.1.2, hk_.1.1.1.2, hk_.1.1.2, hk_.1.2⟩)); have n9_ := Aside0.mk (blk_kept (by refine sqt ?_; exact BK198.out) hkp (fun hs_ => (fun e_ => (Kd.R_ne HO192.out BK198.out (by decide)) e_) hs_)); have n10_ := Aside0.mk (Kd.R_mono (ok' := fun k_ => some k_ ≠ (v178 : Value).ownBlock ∧ some k_ ≠ (v182 : Value).ownBlock ∧ some k_ ≠ (.slice Ao52 t185.length co52 : Value).ownBlock ∧ some k_ ≠ (.slice Ao62 t190.length co62 : Value).ownBlock ∧ some k_ ≠ (.slice Ao72 t195.length co72 : Value).ownBlock ∧ some k_ ≠ (.slice Ao87 t206.length co87 : Value).ownBlock ∧ some k_ ≠ (.slice Ao91 t211.length co91 : Value).ownBlock) (Kd.R_keptB (HO202.out) hkp (fun k_ hk_ hs_ => (hk_.1.1.1.2) hs_)) (fun k_ hk_ => ⟨hk_.1.1.1.1.1.1.1.2, hk_.1.1.1.1.1.1.2, hk_.1.1.1.1.1.2, hk_.1.1.1.1.2, hk_.1.1.1.2, hk_.1.1.2, hk_.1.2⟩)); have n11_ := Aside0.mk (blk_kept (by refine sqt ?_; exact BK203.out) hkp (fun hs_ => (fun e_ => (Kd.R_ne HO192.out BK203.out (by decide)) e_) hs_)); have n12_ := Aside0.mk (Kd.R_mono (ok' := fun k_ => some k_ ≠ (v178 : Value).ownBlock ∧ some k_ ≠ (v182 : Value).ownBlock ∧ some k_ ≠ (.slice Ao52 t185.length co52 : Value).ownBlock ∧ some k_ ≠ (.slice Ao62 t190.length co62 : Value).ownBlock ∧ some k_ ≠ (.slice Ao72 t195.length co72 : Value).ownBlock ∧ some k_ ≠ (.slice Ao82 t200.length co82 : Value).ownBlock ∧ some k_ ≠ (.slice Ao91 t211.length co91 : Value).ownBlock) (Kd.R_keptB (HO208.out) hkp (fun k_ hk_ hs_ => (hk_.1.1.1.2) hs_)) (fun k_ hk_ => ⟨hk_.1.1.1.1.1.1.1.2, hk_.1.1.1.1.1.1.2, hk_.1.1.1.1.1.2, hk_.1.1.1.1.2, hk_.1.1.1.2, hk_.1.1.2, hk_.1.2⟩)); have n13_ := Aside0.mk (Kd.R_mono (ok' := fun k_ => some k_ ≠ (v178 : Value).ownBlock ∧ some k_ ≠ (v182 : Value).ownBlock ∧ some k_ ≠ (.slice Ao52 t185.length co52 : Value).ownBlock ∧ some k_ ≠ (.slice Ao62 t190.length co62 : Value).ownBlock ∧ some k_ ≠ (.slice Ao72 t195.length co72 : Value).ownBlock ∧ some k_ ≠ (.slice Ao82 t200.length co82 : Value).ownBlock ∧ some k_ ≠ (.slice Ao87 t206.length co87 : Value).ownBlock) (Kd.R_keptB (HO213.out) hkp (fun k_ hk_ hs_ => (hk_.1.1.1.2) hs_)) (fun k_ hk_ => ⟨hk_.1.1.1.1.1.1.1.2, hk_.1.1.1.1.1.1.2, hk_.1.1.1.1.1.2, hk_.1.1.1.1.2, hk_.1.1.1.2, hk_.1.1.2, hk_.1.2⟩)); have n14_ := Aside0.mk (hb); clear BK172; clear BK173; clear HO179; clear HO183; clear HO187; clear BK188; clear HO192; clear BK193; clear HO197; clear BK198; clear HO202; clear BK203; clear HO208; clear HO213; clear HB; have BK172 := n0_; have BK173 := n1_; have HO179 := n2_; have HO183 := n3_; have HO187 := n4_; have BK188 := n5_; have HO192 := n6_; have BK193 := n7_; have HO197 := n8_; have BK198 := n9_; have HO202 := n10_; have BK203 := n11_; have HO208 := n12_; have HO213 := n13_; have HB := n14_; clear n0_ n1_ n2_ n3_ n4_ n5_ n6_ n7_ n8_ n9_ n10_ n11_ n12_ n13_ n14_; (try clear hb); (try clear hkp); (try clear hy0); obtain ⟨hcz95_0, hcz95_1, hfz95_0, hfz95_1⟩ := sqc2 BK198) | ((with_reducible refine gate_callee (f := 22) rfl ?_); refine sqL (some 55) Try.func22 #[.agg #[.int .i64 t194, .slice Ao72 t195.length co72], .int .i64 t215] ?_; (with_reducible refine (laws_markGaps.calls k t194 (fun k_ => some k_ = (.slice Ao72 t195.length co72 : Value).ownBlock) (.slice Ao72 t195.length co72) t195 t215 t217 t218 w _ ?side1 ?side2 A34.out).mono ?_); (case side1 => repeat (first | (with_reducible first | exact HB.out | apply below_alloc | apply pw_below_drewN | apply below_drew1 | refine below_set ?_ GE172.out | refine below_set ?_ GE173.out | refine below_set ?_ GE188.out | refine below_set ?_ GE193.out | refine below_set ?_ GE198.out | refine below_set ?_ GE203.out) | exact HB.out)); (case side2 => exact Kd.R_tight rfl HO197.out); rintro e w96 ⟨rfl, hy0, hb, hkp⟩; refine ⟨_, rfl, ?_⟩; have n0_ := Aside0.mk (blk_kept (by refine sqt ?_; exact BK172.out) hkp (fun hs_ => (fun e_ => (Kd.R_ne HO197.out BK172.out (by decide)) e_) hs_)); have n1_ := Aside0.mk (blk_kept (by refine sqt ?_; exact BK173.out) hkp (fun hs_ => (fun e_ => (Kd.R_ne HO197.out BK173.out (by decide)) e_) hs_)); have n2_ := Aside0.mk (Kd.R_mono (ok' := fun k_ => some k_ ≠ (v182 : Value).ownBlock ∧ some k_ ≠ (.slice Ao52 t185.length co52 : Value).ownBlock ∧ some k_ ≠ (.slice Ao62 t190.length co62 : Value).ownBlock ∧ some k_ ≠ (.slice Ao72 t195.length co72 : Value).ownBlock ∧ some k_ ≠ (.slice Ao82 t200.length co82 : Value).ownBlock ∧ some k_ ≠ (.slice Ao87 t206.length co87 : Value).ownBlock ∧ some k_ ≠ (.slice Ao91 t211.length co91 : Value).ownBlock) (Kd.R_keptB (HO179.out) hkp (fun k_ hk_ hs_ => (hk_.2.2.2.1) hs_)) (fun k_ hk_ => ⟨hk_.1.1, hk_.1.2.1, hk_.1.2.2.1, hk_.1.2.2.2.1, hk_.1.2.2.2.2.1, hk_.1.2.2.2.2.2.1, hk_.1.2.2.2.2.2.2⟩)); have n3_ := Aside0.mk (Kd.R_mono (ok' := fun k_ => some k_ ≠ (v178 : Value).ownBlock ∧ some k_ ≠ (.slice Ao52 t185.length co52 : Value).ownBlock ∧ some k_ ≠ (.slice Ao62 t190.length co62 : Value).ownBlock ∧ some k_ ≠ (.slice Ao72 t195.length co72 : Value).ownBlock ∧ some k_ ≠ (.slice Ao82 t200.length co82 : Value).ownBlock ∧ some k_ ≠ (.slice Ao87 t206.length co87 : Value).ownBlock ∧ some k_ ≠ (.slice Ao91 t211.length co91 : Value).ownBlock) (Kd.R_keptB (HO183.out) hkp (fun k_ hk_ hs_ => (hk_.2.2.2.1) hs_)) (fun k_ hk_ => ⟨hk_.1.1, hk_.1.2.1, hk_.1.2.2.1, hk_.1.2.2.2.1, hk_.1.2.2.2.2.1, hk_.1.2.2.2.2.2.1, hk_.1.2.2.2.2.2.2⟩)); have n4_ := Aside0.mk (Kd.R_mono (ok' := fun k_ => some k_ ≠ (v178 : Value).ownBlock ∧ some k_ ≠ (v182 : Value).ownBlock ∧ some k_ ≠ (.slice Ao62 t190.length co62 : Value).ownBlock ∧ some k_ ≠ (.slice Ao72 t195.length co72 : Value).ownBlock ∧ some k_ ≠ (.slice Ao82 t200.length co82 : Value).ownBlock ∧ some k_ ≠ (.slice Ao87 t206.length co87 : Value).ownBlock ∧ some k_ ≠ (.slice Ao91 t211.length co91 : Value).ownBlock) (Kd.R_keptB (HO187.out) hkp (fun k_ hk_ hs_ => (hk_.2.2.2.1) hs_)) (fun k_ hk_ => ⟨hk_.1.1, hk_.1.2.1, hk_.1.2.2.1, hk_.1.2.2.2.1, hk_.1.2.2.2.2.1, hk_.1.2.2.2.2.2.1, hk_.1.2.2.2.2.2.2⟩)); have n5_ := Aside0.mk (blk_kept (by refine sqt ?_; exact BK188.out) hkp (fun hs_ => (fun e_ => (Kd.R_ne HO197.out BK188.out (by decide)) e_) hs_)); have n6_ := Aside0.mk (Kd.R_mono (ok' := fun k_ => some k_ ≠ (v178 : Value).ownBlock ∧ some k_ ≠ (v182 : Value).ownBlock ∧ some k_ ≠ (.slice Ao52 t185.length co52 : Value).ownBlock ∧ some k_ ≠ (.slice Ao72 t195.length co72 : Value).ownBlock ∧ some k_ ≠ (.slice Ao82 t200.length co82 : Value).ownBlock ∧ some k_ ≠ (.slice Ao87 t206.length co87 : Value).ownBlock ∧ some k_ ≠ (.slice Ao91 t211.length co91 : Value).ownBlock) (Kd.R_keptB (HO192.out) hkp (fun k_ hk_ hs_ => (hk_.1.1.1.2) hs_)) (fun k_ hk_ => ⟨hk_.1.1.1.1.1.1.1.2, hk_.1.1.1.1.1.1.2, hk_.1.1.1.1.1.2, hk_.1.1.1.1.2, hk_.1.1.1.2, hk_.1.1.2, hk_.1.2⟩)); have n7_ := Aside0.mk (blk_kept (by refine sqt ?_; exact BK193.out) hkp (fun hs_ => (fun e_ => (Kd.R_ne HO197.out BK193.out (by decide)) e_) hs_)); have n8_ := Aside0.mk (Kd.R_reok rfl hy0 (fun k_ e_ => HO197.out.1 k_ e_)); have n9_ := Aside0.mk (blk_kept (by refine sqt ?_; exact BK198.out) hkp (fun hs_ => (fun e_ => (Kd.R_ne HO197.out BK198.out (by decide)) e_) hs_)); have n10_ := Aside0.mk (Kd.R_mono (ok' := fun k_ => some k_ ≠ (v178 : Value).ownBlock ∧ some k_ ≠ (v182 : Value).ownBlock ∧ some k_ ≠ (.slice Ao52 t185.length co52 : Value).ownBlock ∧ some k_ ≠ (.slice Ao62 t190.length co62 : Value).ownBlock ∧ some k_ ≠ (.slice Ao72 t195.length co72 : Value).ownBlock ∧ some k_ ≠ (.slice Ao87 t206.length co87 : Value).ownBlock ∧ some k_ ≠ (.slice Ao91 t211.length co91 : Value).ownBlock) (Kd.R_keptB (HO202.out) hkp (fun k_ hk_ hs_ => (hk_.2.2.2.2.1) hs_)) (fun k_ hk_ => ⟨hk_.1.1, hk_.1.2.1, hk_.1.2.2.1, hk_.1.2.2.2.1, hk_.1.2.2.2.2.1, hk_.1.2.2.2.2.2.1, hk_.1.2.2.2.2.2.2⟩)); have n11_ := Aside0.mk (blk_kept (by refine sqt ?_; exact BK203.out) hkp (fun hs_ => (fun e_ => (Kd.R_ne HO197.out BK203.out (by decide)) e_) hs_)); have n12_ := Aside0.mk (Kd.R_mono (ok' := fun k_ => some k_ ≠ (v178 : Value).ownBlock ∧ some k_ ≠ (v182 : Value).ownBlock ∧ some k_ ≠ (.slice Ao52 t185.length co52 : Value).ownBlock ∧ some k_ ≠ (.slice Ao62 t190.length co62 : Value).ownBlock ∧ some k_ ≠ (.slice Ao72 t195.length co72 : Value).ownBlock ∧ some k_ ≠ (.slice Ao82 t200.length co82 : Value).ownBlock ∧ some k_ ≠ (.slice Ao91 t211.length co91 : Value).ownBlock) (Kd.R_keptB (HO208.out) hkp (fun k_ hk_ hs_ => (hk_.2.2.2.2.1) hs_)) (fun k_ hk_ => ⟨hk_.1.1, hk_.1.2.1, hk_.1.2.2.1, hk_.1.2.2.2.1, hk_.1.2.2.2.2.1, hk_.1.2.2.2.2.2.1, hk_.1.2.2.2.2.2.2⟩)); have n13_ := Aside0.mk (Kd.R_mono (ok' := fun k_ => some k_ ≠ (v178 : Value).ownBlock ∧ some k_ ≠ (v182 : Value).ownBlock ∧ some k_ ≠ (.slice Ao52 t185.length co52 : Value).ownBlock ∧ some k_ ≠ (.slice Ao62 t190.length co62 : Value).ownBlock ∧ some k_ ≠ (.slice Ao72 t195.length co72 : Value).ownBlock ∧ some k_ ≠ (.slice Ao82 t200.length co82 : Value).ownBlock ∧ some k_ ≠ (.slice Ao87 t206.length co87 : Value).ownBlock) (Kd.R_keptB (HO213.out) hkp (fun k_ hk_ hs_ => (hk_.2.2.2.2.1) hs_)) (fun k_ hk_ => ⟨hk_.1.1, hk_.1.2.1, hk_.1.2.2.1, hk_.1.2.2.2.1, hk_.1.2.2.2.2.1, hk_.1.2.2.2.2.2.1, hk_.1.2.2.2.2.2.2⟩)); have n14_ := Aside0.mk (hb); clear BK172; clear BK173; clear HO179; clear HO183; clear HO187; clear BK188; clear HO192; clear BK193; clear HO197; clear BK198; clear HO202; clear BK203; clear HO208; clear HO213; clear HB; have BK172 := n0_; have BK173 := n1_; have HO179 := n2_; have HO183 := n3_; have HO187 := n4_; have BK188 := n5_; have HO192 := n6_; have BK193 := n7_; have HO197 := n8_; have BK198 := n9_; have HO202 := n10_; have BK203 := n11_; have HO208 := n12_; have HO213 := n13_; have HB := n14_; clear n0_ n1_ n2_ n3_ n4_ n5_ n6_ n7_ n8_ n9_ n10_ n11_ n12_ n13_ n14_; (try clear hb); (try clear hkp); (try clear hy0)))
            (try simp only [Act.put, List.setIfInBounds_toArray, List.set_cons_zero, List.set_cons_succ])
            go_cut [63] (fun v63 wc => ∃ (kq : Nat) (x63_34 : Bool), v63 = .bool x63_34 ∧ Aside0 (laws_FnExactGapsWiden.j0 kq x63_34 a0_0 l0_1 a1_0 l1_1 t184 t185 t199 t200 = some true) ∧ Aside0 (kq ≤ k) ∧ Aside0 (Kd.R (Kd.int .i64) 3 wc w.heap.size (fun k_ => some k_ ≠ ((.slice Ao62 t190.length co62) : Value).ownBlock ∧ some k_ ≠ ((.slice Ao72 t195.length co72) : Value).ownBlock ∧ some k_ ≠ ((.slice Ao82 t200.length co82) : Value).ownBlock) (.slice Ao52 t185.length co52) t185) ∧ Aside0 (Kd.R (Kd.int .i64) 3 wc w.heap.size (fun k_ => some k_ ≠ ((.slice Ao52 t185.length co52) : Value).ownBlock ∧ some k_ ≠ ((.slice Ao72 t195.length co72) : Value).ownBlock ∧ some k_ ≠ ((.slice Ao82 t200.length co82) : Value).ownBlock) (.slice Ao62 t190.length co62) t216) ∧ Aside0 (Kd.R (Kd.int .i64) 3 wc w.heap.size (fun k_ => some k_ ≠ ((.slice Ao52 t185.length co52) : Value).ownBlock ∧ some k_ ≠ ((.slice Ao62 t190.length co62) : Value).ownBlock ∧ some k_ ≠ ((.slice Ao82 t200.length co82) : Value).ownBlock) (.slice Ao72 t195.length co72) t218) ∧ Aside0 (Kd.R (Kd.int .i64) 3 wc w.heap.size (fun k_ => some k_ ≠ ((.slice Ao52 t185.length co52) : Value).ownBlock ∧ some k_ ≠ ((.slice Ao62 t190.length co62) : Value).ownBlock ∧ some k_ ≠ ((.slice Ao72 t195.length co72) : Value).ownBlock) (.slice Ao82 t200.length co82) t200) ∧ Aside0 (wc.heap[gb172]? = some (.cells #[.int .i64 a0_0, (.slice A0_1 l0_1.length c0_1)] 24 (0, 0))) ∧ Aside0 (wc.heap[gb173]? = some (.cells #[.int .i64 a1_0, (.slice A1_1 l1_1.length c1_1)] 24 (0, 0))) ∧ Aside0 (wc.heap[gb188]? = some (.cells #[.int .i64 t184, (.slice Ao52 t185.length co52)] 29 (0, 0))) ∧ Aside0 (wc.heap[gb193]? = some (.cells #[.int .i64 t189, (.slice Ao62 t190.length co62)] 29 (0, 0))) ∧ Aside0 (wc.heap[gb198]? = some (.cells #[.int .i64 t194, (.slice Ao72 t195.length co72)] 29 (0, 0))) ∧ Aside0 (wc.heap[gb203]? = some (.cells #[.int .i64 t199, (.slice Ao82 t200.length co82)] 29 (0, 0))) ∧ Aside0 (Below w.heap.size w wc))
            case first =>
              as_aux_lemma =>
              have H := HC35.out
              clear HC35
              by_cases c97 : t217 < 0
              · rw [if_pos c97] at H
                have c97b0 : decide (t217 < 0) = true := decide_eq_true c97
                clear c97
                (first | rw [c97b0] | (simp only [i64_w, i32_w]; rw [c97b0]) | skip)
                have H' := Aside0.mk H
                clear H
                go_wp2
                go_meet
                case rel => exact ⟨_, (true), (by first | rfl | (simp; done) | (simp [*]; done)), H', ⟨by first | omega | exact Nat.le_refl _⟩, ⟨by (with_reducible repeat (first | apply Kd.R_alloc | apply Kd.R_drewN | apply Kd.R_drew)); exact Kd.R_mono HO187.out (fun _ hk => ⟨hk.2.2.1, ⟨hk.2.2.2.1, hk.2.2.2.2.1⟩⟩)⟩, ⟨by (with_reducible repeat (first | apply Kd.R_alloc | apply Kd.R_drewN | apply Kd.R_drew)); exact Kd.R_mono HO192.out (fun _ hk => ⟨hk.2.2.1, ⟨hk.2.2.2.1, hk.2.2.2.2.1⟩⟩)⟩, ⟨by (with_reducible repeat (first | apply Kd.R_alloc | apply Kd.R_drewN | apply Kd.R_drew)); exact Kd.R_mono HO197.out (fun _ hk => ⟨hk.2.2.1, ⟨hk.2.2.2.1, hk.2.2.2.2.1⟩⟩)⟩, ⟨by (with_reducible repeat (first | apply Kd.R_alloc | apply Kd.R_drewN | apply Kd.R_drew)); exact Kd.R_mono HO202.out (fun _ hk => ⟨hk.2.2.1, ⟨hk.2.2.2.1, hk.2.2.2.2.1⟩⟩)⟩, sqk BK172, sqk BK173, sqk BK188, sqk BK193, sqk BK198, sqk BK203, sqh HB⟩
              · rw [if_neg c97] at H
                have c97b0 : decide (t217 < 0) = false := decide_eq_false c97
                clear c97
                (first | rw [c97b0] | (simp only [i64_w, i32_w]; rw [c97b0]) | skip)
                replace H := Option.bind_eq_some_iff.mp H
                obtain ⟨t219, A980, H⟩ := H
                replace H : (laws_FnExactGapsWiden.j0 k (!t219) a0_0 l0_1 a1_0 l1_1 t184 t185 t199 t200) = some true := H
                have A98 := Aside0.mk A980
                clear A980
                have H' := Aside0.mk H
                clear H
                have hnb99 := NB203_172.out
                have hnc99 := NB172_203.out
                have hnb100 := NB203_173.out
                have hnc100 := NB173_203.out
                have hnb101 := NB203_188.out
                have hnc101 := NB188_203.out
                have hnb102 := NB203_193.out
                have hnc102 := NB193_203.out
                have hnb103 := NB203_198.out
                have hnc103 := NB198_203.out
                obtain ⟨hcz104_0, hcz104_1, hfz104_0, hfz104_1⟩ := sqc2 BK203
                have hnb105 := NB188_172.out
                have hnc105 := NB172_188.out
                have hnb106 := NB188_173.out
                have hnc106 := NB173_188.out
                have hnb107 := NB188_193.out
                have hnc107 := NB193_188.out
                have hnb108 := NB188_198.out
                have hnc108 := NB198_188.out
                obtain ⟨hcz109_0, hcz109_1, hfz109_0, hfz109_1⟩ := sqc2 BK188
                go_wp2_with (first | (go_at_call 19; (with_reducible refine (laws_eqGaps.calls k t199 _ _ t200 t184 _ _ t185 t219 _ ?side1 ?side2 ?side3 ?side4 A98.out).mono ?_); (case side1 => repeat (first | exact (Kd.R_reads' HO202.out).2.2 | (with_reducible refine Kd.C_alloc ?_ _) | (with_reducible refine Kd.C_drewN ?_ _) | (with_reducible refine Kd.C_drew ?_))); (case side2 => exact (Kd.R_reads' HO202.out).2.1); (case side3 => repeat (first | exact (Kd.R_reads' HO187.out).2.2 | (with_reducible refine Kd.C_alloc ?_ _) | (with_reducible refine Kd.C_drewN ?_ _) | (with_reducible refine Kd.C_drew ?_))); (case side4 => exact (Kd.R_reads' HO187.out).2.1); rintro e w110 ⟨rfl, hb⟩; have n0_ := Aside0.mk (Kd.R_below (by (with_reducible repeat (first | apply Kd.R_alloc | apply Kd.R_drewN | apply Kd.R_drew)); exact HO179.out) hb); have n1_ := Aside0.mk (Kd.R_below (by (with_reducible repeat (first | apply Kd.R_alloc | apply Kd.R_drewN | apply Kd.R_drew)); exact HO183.out) hb); have n2_ := Aside0.mk (Kd.R_below (by (with_reducible repeat (first | apply Kd.R_alloc | apply Kd.R_drewN | apply Kd.R_drew)); exact HO187.out) hb); have n3_ := Aside0.mk (Kd.R_below (by (with_reducible repeat (first | apply Kd.R_alloc | apply Kd.R_drewN | apply Kd.R_drew)); exact HO192.out) hb); have n4_ := Aside0.mk (Kd.R_below (by (with_reducible repeat (first | apply Kd.R_alloc | apply Kd.R_drewN | apply Kd.R_drew)); exact HO197.out) hb); have n5_ := Aside0.mk (Kd.R_below (by (with_reducible repeat (first | apply Kd.R_alloc | apply Kd.R_drewN | apply Kd.R_drew)); exact HO202.out) hb); have n6_ := Aside0.mk (Kd.R_below (by (with_reducible repeat (first | apply Kd.R_alloc | apply Kd.R_drewN | apply Kd.R_drew)); exact HO208.out) hb); have n7_ := Aside0.mk (Kd.R_below (by (with_reducible repeat (first | apply Kd.R_alloc | apply Kd.R_drewN | apply Kd.R_drew)); exact HO213.out) hb); have n8_ := sqb BK172 hb; have n9_ := sqb BK173 hb; have n10_ := sqb BK188 hb; have n11_ := sqb BK193 hb; have n12_ := sqb BK198 hb; have n13_ := sqb BK203 hb; have n14_ := sqs HB hb; clear HO179; clear HO183; clear HO187; clear HO192; clear HO197; clear HO202; clear HO208; clear HO213; clear BK172; clear BK173; clear BK188; clear BK193; clear BK198; clear BK203; clear HB; have HO179 := n0_; have HO183 := n1_; have HO187 := n2_; have HO192 := n3_; have HO197 := n4_; have HO202 := n5_; have HO208 := n6_; have HO213 := n7_; have BK172 := n8_; have BK173 := n9_; have BK188 := n10_; have BK193 := n11_; have BK198 := n12_; have BK203 := n13_; have HB := n14_; clear n0_ n1_ n2_ n3_ n4_ n5_ n6_ n7_ n8_ n9_ n10_ n11_ n12_ n13_ n14_; (try clear hb)))
                go_meet
                case rel => exact ⟨_, (!t219), (by first | rfl | (simp; done) | (simp [*]; done)), H', ⟨by first | omega | exact Nat.le_refl _⟩, ⟨by (with_reducible repeat (first | apply Kd.R_alloc | apply Kd.R_drewN | apply Kd.R_drew)); exact Kd.R_mono HO187.out (fun _ hk => ⟨hk.2.2.1, ⟨hk.2.2.2.1, hk.2.2.2.2.1⟩⟩)⟩, ⟨by (with_reducible repeat (first | apply Kd.R_alloc | apply Kd.R_drewN | apply Kd.R_drew)); exact Kd.R_mono HO192.out (fun _ hk => ⟨hk.2.2.1, ⟨hk.2.2.2.1, hk.2.2.2.2.1⟩⟩)⟩, ⟨by (with_reducible repeat (first | apply Kd.R_alloc | apply Kd.R_drewN | apply Kd.R_drew)); exact Kd.R_mono HO197.out (fun _ hk => ⟨hk.2.2.1, ⟨hk.2.2.2.1, hk.2.2.2.2.1⟩⟩)⟩, ⟨by (with_reducible repeat (first | apply Kd.R_alloc | apply Kd.R_drewN | apply Kd.R_drew)); exact Kd.R_mono HO202.out (fun _ hk => ⟨hk.2.2.1, ⟨hk.2.2.2.1, hk.2.2.2.2.1⟩⟩)⟩, sqk BK172, sqk BK173, sqk BK188, sqk BK193, sqk BK198, sqk BK203, sqh HB⟩
            case rest =>
              as_aux_lemma =>
              clear HC35
              try clear hcz55_0
              try clear hcz55_1
              try clear hcz61_0
              try clear hcz61_1
              try clear hcz64_0
              try clear hcz64_1
              try clear hcz71_0
              try clear hcz71_1
              try clear hcz73_0
              try clear hcz73_1
              try clear hcz81_0
              try clear hcz81_1
              try clear hcz83_0
              try clear hcz83_1
              try clear hcz93_0
              try clear hcz93_1
              try clear hcz95_0
              try clear hcz95_1
              try clear hfz55_0
              try clear hfz55_1
              try clear hfz61_0
              try clear hfz61_1
              try clear hfz64_0
              try clear hfz64_1
              try clear hfz71_0
              try clear hfz71_1
              try clear hfz73_0
              try clear hfz73_1
              try clear hfz81_0
              try clear hfz81_1
              try clear hfz83_0
              try clear hfz83_1
              try clear hfz93_0
              try clear hfz93_1
              try clear hfz95_0
              try clear hfz95_1
              obtain ⟨kq, x63_34, rfl, HA, HJ34, HO_189001, HO_194001, HO_199001, HO_204001, BK172, BK173, BK188, BK193, BK198, BK203, HB⟩ := hcut
              have hl194001_34 := (Kd.R_reads' HO_194001.out).1
              rw [hl194001_34] at HO_194001
              (try simp only [hl194001_34])
              (try simp only [hl194001_34] at BK172)
              (try simp only [hl194001_34] at BK173)
              (try simp only [hl194001_34] at BK188)
              (try simp only [hl194001_34] at BK193)
              (try simp only [hl194001_34] at BK198)
              (try simp only [hl194001_34] at BK203)
              (try simp only [hl194001_34] at HO_189001)
              (try simp only [hl194001_34] at HO_199001)
              (try simp only [hl194001_34] at HO_204001)
              have hl199001_34 := (Kd.R_reads' HO_199001.out).1
              rw [hl199001_34] at HO_199001
              (try simp only [hl199001_34])
              (try simp only [hl199001_34] at BK172)
              (try simp only [hl199001_34] at BK173)
              (try simp only [hl199001_34] at BK188)
              (try simp only [hl199001_34] at BK193)
              (try simp only [hl199001_34] at BK198)
              (try simp only [hl199001_34] at BK203)
              (try simp only [hl199001_34] at HO_189001)
              (try simp only [hl199001_34] at HO_194001)
              (try simp only [hl199001_34] at HO_204001)
              cases kq with
              | zero => exact absurd HA.out (by simp [laws_FnExactGapsWiden.j0])
              | succ kj34 =>
                have H := HA.out
                clear HA
                simp only [laws_FnExactGapsWiden.j0] at H
                by_cases c111 : x63_34 = true
                · subst c111
                  have H1 : (some false) = some true := by rw [if_pos rfl] at H; exact H
                  clear H
                  have H := H1
                  clear H1
                  exact absurd (Option.some.inj H) (by decide)
                · replace c111 := Bool.eq_false_iff.mpr c111
                  subst c111
                  have H1 : ((laws_markGaps.f kj34 t199 t200 1).bind fun bt220 => ((laws_heldGaps.f kj34 t199 bt220.2 1).bind fun t222 => (if t222 < 0 then (some false) else (if t222 = bt220.1 then ((laws_toGaps.f kj34 a0_0 l0_1).bind fun bt223 => ((laws_toGaps.f kj34 a1_0 l1_1).bind fun bt227 => ((impl_GapsWiden.f kj34 bt223.1 bt223.2 bt227.1 bt227.2).bind fun bt231 => ((laws_eqGaps.f kj34 bt231.1 bt231.2 t184 t185).bind fun t236 => (if t236 = true then ((laws_heldGaps.f kj34 t199 bt220.2 1).bind fun t237 => (if t237 < 0 then (some false) else (if t237 = bt220.1 then (some true) else (some false)))) else (some false)))))) else (some false))))) = some true := by rw [if_neg (show ¬ (false = true) by decide)] at H; exact H
                  clear H
                  have H := H1
                  clear H1
                  replace H := Option.bind_eq_some_iff.mp H
                  obtain ⟨⟨t220, t221⟩, A1120, H⟩ := H
                  replace H : ((laws_heldGaps.f kj34 t199 t221 1).bind fun t222 => (if t222 < 0 then (some false) else (if t222 = t220 then ((laws_toGaps.f kj34 a0_0 l0_1).bind fun bt223 => ((laws_toGaps.f kj34 a1_0 l1_1).bind fun bt227 => ((impl_GapsWiden.f kj34 bt223.1 bt223.2 bt227.1 bt227.2).bind fun bt231 => ((laws_eqGaps.f kj34 bt231.1 bt231.2 t184 t185).bind fun t236 => (if t236 = true then ((laws_heldGaps.f kj34 t199 t221 1).bind fun t237 => (if t237 < 0 then (some false) else (if t237 = t220 then (some true) else (some false)))) else (some false)))))) else (some false)))) = some true := H
                  have A112 := Aside0.mk A1120
                  clear A1120
                  replace H := Option.bind_eq_some_iff.mp H
                  obtain ⟨t222, A1130, H⟩ := H
                  replace H : (if t222 < 0 then (some false) else (if t222 = t220 then ((laws_toGaps.f kj34 a0_0 l0_1).bind fun bt223 => ((laws_toGaps.f kj34 a1_0 l1_1).bind fun bt227 => ((impl_GapsWiden.f kj34 bt223.1 bt223.2 bt227.1 bt227.2).bind fun bt231 => ((laws_eqGaps.f kj34 bt231.1 bt231.2 t184 t185).bind fun t236 => (if t236 = true then ((laws_heldGaps.f kj34 t199 t221 1).bind fun t237 => (if t237 < 0 then (some false) else (if t237 = t220 then (some true) else (some false)))) else (some false)))))) else (some false))) = some true := H
                  have A113 := Aside0.mk A1130
                  clear A1130
                  by_cases c114 : t222 < 0
                  · rw [if_pos c114] at H
                    have c114b0 : decide (t222 < 0) = true := decide_eq_true c114
                    clear c114
                    exact absurd (Option.some.inj H) (by decide)
                  · rw [if_neg c114] at H
                    have c114b0 : decide (t222 < 0) = false := decide_eq_false c114
                    clear c114
                    by_cases c124 : t222 = t220
                    · rw [if_pos c124] at H
                      have c124b0 : (t222 == t220) = true := beq_iff_eq.mpr c124
                      have c124b1 : (t222 != t220) = false := bne_eq_false_iff_eq.mpr c124
                      clear c124
                      replace H := Option.bind_eq_some_iff.mp H
                      obtain ⟨⟨t223, t224⟩, A1250, H⟩ := H
                      replace H : ((laws_toGaps.f kj34 a1_0 l1_1).bind fun bt227 => ((impl_GapsWiden.f kj34 t223 t224 bt227.1 bt227.2).bind fun bt231 => ((laws_eqGaps.f kj34 bt231.1 bt231.2 t184 t185).bind fun t236 => (if t236 = true then ((laws_heldGaps.f kj34 t199 t221 1).bind fun t237 => (if t237 < 0 then (some false) else (if t237 = t220 then (some true) else (some false)))) else (some false))))) = some true := H
                      have A125 := Aside0.mk A1250
                      clear A1250
                      replace H := Option.bind_eq_some_iff.mp H
                      obtain ⟨⟨t227, t228⟩, A1260, H⟩ := H
                      replace H : ((impl_GapsWiden.f kj34 t223 t224 t227 t228).bind fun bt231 => ((laws_eqGaps.f kj34 bt231.1 bt231.2 t184 t185).bind fun t236 => (if t236 = true then ((laws_heldGaps.f kj34 t199 t221 1).bind fun t237 => (if t237 < 0 then (some false) else (if t237 = t220 then (some true) else (some false)))) else (some false)))) = some true := H
                      have A126 := Aside0.mk A1260
                      clear A1260
                      replace H := Option.bind_eq_some_iff.mp H
                      obtain ⟨⟨t231, t232⟩, A1270, H⟩ := H
                      replace H : ((laws_eqGaps.f kj34 t231 t232 t184 t185).bind fun t236 => (if t236 = true then ((laws_heldGaps.f kj34 t199 t221 1).bind fun t237 => (if t237 < 0 then (some false) else (if t237 = t220 then (some true) else (some false)))) else (some false))) = some true := H
                      have A127 := Aside0.mk A1270
                      clear A1270
                      replace H := Option.bind_eq_some_iff.mp H
                      obtain ⟨t236, A1280, H⟩ := H
                      replace H : (if t236 = true then ((laws_heldGaps.f kj34 t199 t221 1).bind fun t237 => (if t237 < 0 then (some false) else (if t237 = t220 then (some true) else (some false)))) else (some false)) = some true := H
                      have A128 := Aside0.mk A1280
                      clear A1280
                      by_cases c129 : t236 = true
                      · subst c129
                        have H1 : ((laws_heldGaps.f kj34 t199 t221 1).bind fun t237 => (if t237 < 0 then (some false) else (if t237 = t220 then (some true) else (some false)))) = some true := by rw [if_pos rfl] at H; exact H
                        clear H
                        have H := H1
                        clear H1
                        replace H := Option.bind_eq_some_iff.mp H
                        obtain ⟨t237, A1300, H⟩ := H
                        replace H : (if t237 < 0 then (some false) else (if t237 = t220 then (some true) else (some false))) = some true := H
                        have A130 := Aside0.mk A1300
                        clear A1300
                        by_cases c131 : t237 < 0
                        · rw [if_pos c131] at H
                          have c131b0 : decide (t237 < 0) = true := decide_eq_true c131
                          clear c131
                          exact absurd (Option.some.inj H) (by decide)
                        · rw [if_neg c131] at H
                          have c131b0 : decide (t237 < 0) = false := decide_eq_false c131
                          clear c131
                          by_cases c167 : t237 = t220
                          · rw [if_pos c167] at H
                            have c167b0 : (t237 == t220) = true := beq_iff_eq.mpr c167
                            have c167b1 : (t237 != t220) = false := bne_eq_false_iff_eq.mpr c167
                            clear c167
                            clear H
                            have hnb168 := NB203_172.out
                            have hnc168 := NB172_203.out
                            have hnb169 := NB203_173.out
                            have hnc169 := NB173_203.out
                            have hnb170 := NB203_188.out
                            have hnc170 := NB188_203.out
                            have hnb171 := NB203_193.out
                            have hnc171 := NB193_203.out
                            have hnb172 := NB203_198.out
                            have hnc172 := NB198_203.out
                            obtain ⟨hcz173_0, hcz173_1, hfz173_0, hfz173_1⟩ := sqc2 BK203
                            try go_wp2_with (first | ((with_reducible refine gate_callee (f := 22) rfl ?_); refine sqL (some 66) Try.func22 #[.agg #[.int .i64 t199, .slice Ao82 t200.length co82], .int .i64 1] ?_; (with_reducible refine (laws_markGaps.calls kj34 t199 (fun k_ => some k_ = (.slice Ao82 t200.length co82 : Value).ownBlock) (.slice Ao82 t200.length co82) t200 1 t220 t221 w _ ?side1 ?side2 A112.out).mono ?_); (case side1 => repeat (first | (with_reducible first | exact HB.out | apply below_alloc | apply pw_below_drewN | apply below_drew1 | refine below_set ?_ GE172.out | refine below_set ?_ GE173.out | refine below_set ?_ GE188.out | refine below_set ?_ GE193.out | refine below_set ?_ GE198.out | refine below_set ?_ GE203.out) | exact HB.out)); (case side2 => exact Kd.R_tight rfl HO_204001.out); rintro e w174 ⟨rfl, hy0, hb, hkp⟩; refine ⟨_, rfl, ?_⟩; have n0_ := Aside0.mk (Kd.R_mono (ok' := fun k_ => some k_ ≠ (.slice Ao62 t216.length co62 : Value).ownBlock ∧ some k_ ≠ (.slice Ao72 t218.length co72 : Value).ownBlock ∧ some k_ ≠ (.slice Ao82 t200.length co82 : Value).ownBlock) (Kd.R_keptB (HO_189001.out) hkp (fun k_ hk_ hs_ => (hk_.2.2) hs_)) (fun k_ hk_ => ⟨hk_.1.1, hk_.1.2.1, hk_.1.2.2⟩)); have n1_ := Aside0.mk (Kd.R_mono (ok' := fun k_ => some k_ ≠ (.slice Ao52 t185.length co52 : Value).ownBlock ∧ some k_ ≠ (.slice Ao72 t218.length co72 : Value).ownBlock ∧ some k_ ≠ (.slice Ao82 t200.length co82 : Value).ownBlock) (Kd.R_keptB (HO_194001.out) hkp (fun k_ hk_ hs_ => (hk_.2.2) hs_)) (fun k_ hk_ => ⟨hk_.1.1, hk_.1.2.1, hk_.1.2.2⟩)); have n2_ := Aside0.mk (Kd.R_mono (ok' := fun k_ => some k_ ≠ (.slice Ao52 t185.length co52 : Value).ownBlock ∧ some k_ ≠ (.slice Ao62 t216.length co62 : Value).ownBlock ∧ some k_ ≠ (.slice Ao82 t200.length co82 : Value).ownBlock) (Kd.R_keptB (HO_199001.out) hkp (fun k_ hk_ hs_ => (hk_.2.2) hs_)) (fun k_ hk_ => ⟨hk_.1.1, hk_.1.2.1, hk_.1.2.2⟩)); have n3_ := Aside0.mk (Kd.R_reok rfl hy0 (fun k_ e_ => HO_204001.out.1 k_ e_)); have n4_ := Aside0.mk (blk_kept (by refine sqt ?_; exact BK172.out) hkp (fun hs_ => (fun e_ => (Kd.R_ne HO_204001.out BK172.out (by decide)) e_) hs_)); have n5_ := Aside0.mk (blk_kept (by refine sqt ?_; exact BK173.out) hkp (fun hs_ => (fun e_ => (Kd.R_ne HO_204001.out BK173.out (by decide)) e_) hs_)); have n6_ := Aside0.mk (blk_kept (by refine sqt ?_; exact BK188.out) hkp (fun hs_ => (fun e_ => (Kd.R_ne HO_204001.out BK188.out (by decide)) e_) hs_)); have n7_ := Aside0.mk (blk_kept (by refine sqt ?_; exact BK193.out) hkp (fun hs_ => (fun e_ => (Kd.R_ne HO_204001.out BK193.out (by decide)) e_) hs_)); have n8_ := Aside0.mk (blk_kept (by refine sqt ?_; exact BK198.out) hkp (fun hs_ => (fun e_ => (Kd.R_ne HO_204001.out BK198.out (by decide)) e_) hs_)); have n9_ := Aside0.mk (blk_kept (by refine sqt ?_; exact BK203.out) hkp (fun hs_ => (fun e_ => (Kd.R_ne HO_204001.out BK203.out (by decide)) e_) hs_)); have n10_ := Aside0.mk (hb); clear HO_189001; clear HO_194001; clear HO_199001; clear HO_204001; clear BK172; clear BK173; clear BK188; clear BK193; clear BK198; clear BK203; clear HB; have HO_189001 := n0_; have HO_194001 := n1_; have HO_199001 := n2_; have HO_204001 := n3_; have BK172 := n4_; have BK173 := n5_; have BK188 := n6_; have BK193 := n7_; have BK198 := n8_; have BK203 := n9_; have HB := n10_; clear n0_ n1_ n2_ n3_ n4_ n5_ n6_ n7_ n8_ n9_ n10_; (try clear hb); (try clear hkp); (try clear hy0); obtain ⟨hcz175_0, hcz175_1, hfz175_0, hfz175_1⟩ := sqc2 BK203) | ((with_reducible refine gate_callee (f := 23) rfl ?_); refine goesL_ (some 69) rfl rfl Try.func23 (by kernel_rfl) rfl #[.agg #[.int .i64 t199, .slice Ao82 t221.length co82], .int .i64 1] rfl (by (try simp only [List.map_toArray, List.map_cons, List.map_nil]); first | done | (rw [show t221.length = t200.length from (Kd.R_reads' HO_204001.out).1.symm] <;> rfl) | rfl | (simp only [List.length_drop, List.length_take]; rfl)) ?_; (with_reducible refine (laws_heldGaps.calls kj34 t199 _ _ t221 1 t222 _ ?side1 ?side2 A113.out).mono ?_); (case side1 => repeat (first | exact (Kd.R_reads' HO_204001.out).2.2 | (with_reducible refine Kd.C_alloc ?_ _) | (with_reducible refine Kd.C_drewN ?_ _) | (with_reducible refine Kd.C_drew ?_))); (case side2 => rw [show t221.length = t200.length from (Kd.R_reads' HO_204001.out).1.symm]; exact (Kd.R_reads' HO_204001.out).2.1); rintro e w176 ⟨rfl, hb⟩; refine ⟨_, rfl, ?_⟩; have n0_ := Aside0.mk (Kd.R_below (by (with_reducible repeat (first | apply Kd.R_alloc | apply Kd.R_drewN | apply Kd.R_drew)); exact HO_189001.out) hb); have n1_ := Aside0.mk (Kd.R_below (by (with_reducible repeat (first | apply Kd.R_alloc | apply Kd.R_drewN | apply Kd.R_drew)); exact HO_194001.out) hb); have n2_ := Aside0.mk (Kd.R_below (by (with_reducible repeat (first | apply Kd.R_alloc | apply Kd.R_drewN | apply Kd.R_drew)); exact HO_199001.out) hb); have n3_ := Aside0.mk (Kd.R_below (by (with_reducible repeat (first | apply Kd.R_alloc | apply Kd.R_drewN | apply Kd.R_drew)); exact HO_204001.out) hb); have n4_ := sqb BK172 hb; have n5_ := sqb BK173 hb; have n6_ := sqb BK188 hb; have n7_ := sqb BK193 hb; have n8_ := sqb BK198 hb; have n9_ := sqb BK203 hb; have n10_ := sqs HB hb; clear HO_189001; clear HO_194001; clear HO_199001; clear HO_204001; clear BK172; clear BK173; clear BK188; clear BK193; clear BK198; clear BK203; clear HB; have HO_189001 := n0_; have HO_194001 := n1_; have HO_199001 := n2_; have HO_204001 := n3_; have BK172 := n4_; have BK173 := n5_; have BK188 := n6_; have BK193 := n7_; have BK198 := n8_; have BK203 := n9_; have HB := n10_; clear n0_ n1_ n2_ n3_ n4_ n5_ n6_ n7_ n8_ n9_ n10_; (try clear hb)))
                            replace HO_189001 := Aside0.mk (Kd.R_drew HO_189001.out)
                            replace HO_194001 := Aside0.mk (Kd.R_drew HO_194001.out)
                            replace HO_199001 := Aside0.mk (Kd.R_drew HO_199001.out)
                            replace HO_204001 := Aside0.mk (Kd.R_drew HO_204001.out)
                            replace BK172 := Aside0.mk (blk_drew BK172.out)
                            replace BK173 := Aside0.mk (blk_drew BK173.out)
                            replace BK188 := Aside0.mk (blk_drew BK188.out)
                            replace BK193 := Aside0.mk (blk_drew BK193.out)
                            replace BK198 := Aside0.mk (blk_drew BK198.out)
                            replace BK203 := Aside0.mk (blk_drew BK203.out)
                            replace HB := Aside0.mk (below_drew1 HB.out)
                            refine start_ (n := 7) (S := fun w' => w'.cell? ⟨gb172, 0, none⟩ = some (.int .i64 a0_0) ∧ w'.cell? ⟨gb172, 1, none⟩ = some (.slice A0_1 l0_1.length c0_1) ∧ w'.cell? ⟨gb173, 0, none⟩ = some (.int .i64 a1_0) ∧ w'.cell? ⟨gb173, 1, none⟩ = some (.slice A1_1 l1_1.length c1_1)) (ds := []) #[false, false, false, false, false, false, false] (by kernel_rfl) rfl rfl ⟨(blk_cell BK172.out 0).trans rfl, (blk_cell BK172.out 1).trans rfl, (blk_cell BK173.out 0).trans rfl, (blk_cell BK173.out 1).trans rfl⟩ (fun hHeld => ?_)
                            generalize w176.drew = w177 at HO_189001 HO_194001 HO_199001 HO_204001 BK172 BK173 BK188 BK193 BK198 BK203 HB hHeld ⊢
                            refine take_ (i := 0) (N := some 75) (v := ?_) (a' := ?_) #[true, false, false, false, false, false, false] rfl rfl (by kernel_rfl) (fun _ _ _ h => h) (Or.inl ⟨by rfl, ?_⟩) hHeld ?_ ?_
                            rotate_left
                            · rintro w' ⟨s0, s1, s2, s3⟩
                              go_simp
                              with_reducible rfl
                            rotate_left
                            · simp only [Act.put, List.setIfInBounds_toArray, List.set_cons_zero, List.set_cons_succ, i64_w, i32_w]
                              rfl
                            refine take_ (i := 2) (N := some 77) (v := ?_) (a' := ?_) #[true, false, true, false, false, false, false] rfl rfl (by kernel_rfl) (fun _ _ _ h => h) (Or.inl ⟨by rfl, ?_⟩) hHeld ?_ ?_
                            rotate_left
                            · rintro w' ⟨s0, s1, s2, s3⟩
                              go_simp
                              with_reducible rfl
                            rotate_left
                            · simp only [Act.put, List.setIfInBounds_toArray, List.set_cons_zero, List.set_cons_succ, i64_w, i32_w]
                              rfl
                            refine join_ (σ := Value × Value × Value × Nat) 1 #[true, true, true, true, true, true, false] (fun s_ => [(76, .agg #[.int .i64 t223, s_.1]), (78, .agg #[.int .i64 t227, s_.2.1]), (79, .agg #[.int .i64 t231, s_.2.2.1]), (13, .pointer (some ⟨s_.2.2.2, 0, none⟩))]) (fun s_ w' => (w'.cell? ⟨gb172, 0, none⟩ = some (.int .i64 a0_0) ∧ w'.cell? ⟨gb172, 1, none⟩ = some (.slice A0_1 l0_1.length c0_1) ∧ w'.cell? ⟨gb173, 0, none⟩ = some (.int .i64 a1_0) ∧ w'.cell? ⟨gb173, 1, none⟩ = some (.slice A1_1 l1_1.length c1_1)) ∧ (Kd.R (Kd.int .i64) 3 w' w.heap.size (fun k_ => some k_ ≠ (s_.2.1 : Value).ownBlock ∧ some k_ ≠ (s_.2.2.1 : Value).ownBlock ∧ some k_ ≠ (.slice Ao52 t185.length co52 : Value).ownBlock ∧ some k_ ≠ (.slice Ao62 t216.length co62 : Value).ownBlock ∧ some k_ ≠ (.slice Ao72 t218.length co72 : Value).ownBlock ∧ some k_ ≠ (.slice Ao82 t200.length co82 : Value).ownBlock) s_.1 t224) ∧ (Kd.R (Kd.int .i64) 3 w' w.heap.size (fun k_ => some k_ ≠ (s_.1 : Value).ownBlock ∧ some k_ ≠ (s_.2.2.1 : Value).ownBlock ∧ some k_ ≠ (.slice Ao52 t185.length co52 : Value).ownBlock ∧ some k_ ≠ (.slice Ao62 t216.length co62 : Value).ownBlock ∧ some k_ ≠ (.slice Ao72 t218.length co72 : Value).ownBlock ∧ some k_ ≠ (.slice Ao82 t200.length co82 : Value).ownBlock) s_.2.1 t228) ∧ (Kd.R (Kd.int .i64) 3 w' w.heap.size (fun k_ => some k_ ≠ (s_.1 : Value).ownBlock ∧ some k_ ≠ (s_.2.1 : Value).ownBlock ∧ some k_ ≠ (.slice Ao52 t185.length co52 : Value).ownBlock ∧ some k_ ≠ (.slice Ao62 t216.length co62 : Value).ownBlock ∧ some k_ ≠ (.slice Ao72 t218.length co72 : Value).ownBlock ∧ some k_ ≠ (.slice Ao82 t200.length co82 : Value).ownBlock) s_.2.2.1 t232) ∧ (Kd.R (Kd.int .i64) 3 w' w.heap.size (fun k_ => some k_ ≠ (s_.1 : Value).ownBlock ∧ some k_ ≠ (s_.2.1 : Value).ownBlock ∧ some k_ ≠ (s_.2.2.1 : Value).ownBlock ∧ some k_ ≠ (.slice Ao62 t216.length co62 : Value).ownBlock ∧ some k_ ≠ (.slice Ao72 t218.length co72 : Value).ownBlock ∧ some k_ ≠ (.slice Ao82 t200.length co82 : Value).ownBlock) (.slice Ao52 t185.length co52) t185) ∧ (Kd.R (Kd.int .i64) 3 w' w.heap.size (fun k_ => some k_ ≠ (s_.1 : Value).ownBlock ∧ some k_ ≠ (s_.2.1 : Value).ownBlock ∧ some k_ ≠ (s_.2.2.1 : Value).ownBlock ∧ some k_ ≠ (.slice Ao52 t185.length co52 : Value).ownBlock ∧ some k_ ≠ (.slice Ao72 t218.length co72 : Value).ownBlock ∧ some k_ ≠ (.slice Ao82 t200.length co82 : Value).ownBlock) (.slice Ao62 t216.length co62) t216) ∧ (Kd.R (Kd.int .i64) 3 w' w.heap.size (fun k_ => some k_ ≠ (s_.1 : Value).ownBlock ∧ some k_ ≠ (s_.2.1 : Value).ownBlock ∧ some k_ ≠ (s_.2.2.1 : Value).ownBlock ∧ some k_ ≠ (.slice Ao52 t185.length co52 : Value).ownBlock ∧ some k_ ≠ (.slice Ao62 t216.length co62 : Value).ownBlock ∧ some k_ ≠ (.slice Ao82 t200.length co82 : Value).ownBlock) (.slice Ao72 t218.length co72) t218) ∧ (Kd.R (Kd.int .i64) 3 w' w.heap.size (fun k_ => some k_ ≠ (s_.1 : Value).ownBlock ∧ some k_ ≠ (s_.2.1 : Value).ownBlock ∧ some k_ ≠ (s_.2.2.1 : Value).ownBlock ∧ some k_ ≠ (.slice Ao52 t185.length co52 : Value).ownBlock ∧ some k_ ≠ (.slice Ao62 t216.length co62 : Value).ownBlock ∧ some k_ ≠ (.slice Ao72 t218.length co72 : Value).ownBlock) (.slice Ao82 t200.length co82) t221) ∧ (w'.heap[gb172]? = some (.cells #[.int .i64 a0_0, .slice A0_1 l0_1.length c0_1] 24 (0, 0))) ∧ (w'.heap[gb173]? = some (.cells #[.int .i64 a1_0, .slice A1_1 l1_1.length c1_1] 24 (0, 0))) ∧ (w'.heap[gb188]? = some (.cells #[.int .i64 t184, .slice Ao52 t185.length co52] 29 (0, 0))) ∧ (w'.heap[gb193]? = some (.cells #[.int .i64 t189, .slice Ao62 t216.length co62] 29 (0, 0))) ∧ (w'.heap[gb198]? = some (.cells #[.int .i64 t194, .slice Ao72 t218.length co72] 29 (0, 0))) ∧ (w'.heap[gb203]? = some (.cells #[.int .i64 t199, .slice Ao82 t200.length co82] 29 (0, 0))) ∧ (w'.heap[s_.2.2.2]? = some (.cells #[.int .i64 0, .slice none 0 0] 29 (0, 0))) ∧ (w.heap.size ≤ s_.2.2.2) ∧ (w.heap.size ≤ s_.2.2.2) ∧ (gb172 ≠ s_.2.2.2) ∧ (s_.2.2.2 ≠ gb172) ∧ (gb173 ≠ s_.2.2.2) ∧ (s_.2.2.2 ≠ gb173) ∧ (gb188 ≠ s_.2.2.2) ∧ (s_.2.2.2 ≠ gb188) ∧ (gb193 ≠ s_.2.2.2) ∧ (s_.2.2.2 ≠ gb193) ∧ (gb198 ≠ s_.2.2.2) ∧ (s_.2.2.2 ≠ gb198) ∧ (gb203 ≠ s_.2.2.2) ∧ (s_.2.2.2 ≠ gb203) ∧ (Below w.heap.size w w')) ?_ ?_
                            rotate_left
                            · intro hCont
                              refine two_ (i := 1) (j := 5) (Ni := some 76) (Nj := some 13) #[true, true, true, false, false, false, false] #[true, false, true, false, false, true, false] rfl rfl rfl rfl (by kernel_rfl) (by decide) (by decide) (fun K hK => ?_) (fun K hK => ?_)
                              · skip
                                refine sqG Try.func16 #[.agg #[.int .i64 a0_0, .slice A0_1 l0_1.length c0_1]] ?_
                                with_reducible refine (laws_toGaps.calls kj34 a0_0 _ _ l0_1 t223 t224 _ ?side1 ?side2 A125.out).mono ?_
                                (case side1 => repeat (first | exact (Kd.C_below HR0_1.out HB.out) | (with_reducible refine Kd.C_alloc ?_ _) | (with_reducible refine Kd.C_drewN ?_ _) | (with_reducible refine Kd.C_drew ?_)))
                                (case side2 => exact HC0_1.out)
                                rintro e w178 ⟨v225, rfl, ho0, hb⟩
                                refine ⟨_, rfl, ?_⟩
                                have n0_ := Aside0.mk (Kd.R_elder' (by (with_reducible repeat (first | apply Kd.R_alloc | apply Kd.R_drewN | apply Kd.R_drew)); exact HO_189001.out) (Kd.R_base ho0) hb)
                                have n1_ := Aside0.mk (Kd.R_elder' (by (with_reducible repeat (first | apply Kd.R_alloc | apply Kd.R_drewN | apply Kd.R_drew)); exact HO_194001.out) (Kd.R_base ho0) hb)
                                have n2_ := Aside0.mk (Kd.R_elder' (by (with_reducible repeat (first | apply Kd.R_alloc | apply Kd.R_drewN | apply Kd.R_drew)); exact HO_199001.out) (Kd.R_base ho0) hb)
                                have n3_ := Aside0.mk (Kd.R_elder' (by (with_reducible repeat (first | apply Kd.R_alloc | apply Kd.R_drewN | apply Kd.R_drew)); exact HO_204001.out) (Kd.R_base ho0) hb)
                                have n4_ := Aside0.mk (Kd.R_lower (Kd.R_new' (Kd.R_new' (Kd.R_new' (Kd.R_new' ho0 (Kd.R_lt (by (with_reducible repeat (first | apply Kd.R_alloc | apply Kd.R_drewN | apply Kd.R_drew)); exact HO_189001.out))) (Kd.R_lt (by (with_reducible repeat (first | apply Kd.R_alloc | apply Kd.R_drewN | apply Kd.R_drew)); exact HO_194001.out))) (Kd.R_lt (by (with_reducible repeat (first | apply Kd.R_alloc | apply Kd.R_drewN | apply Kd.R_drew)); exact HO_199001.out))) (Kd.R_lt (by (with_reducible repeat (first | apply Kd.R_alloc | apply Kd.R_drewN | apply Kd.R_drew)); exact HO_204001.out))) (below_size (by repeat (first | (with_reducible first | exact HB.out | apply below_alloc | apply pw_below_drewN | apply below_drew1 | refine below_set ?_ GE172.out | refine below_set ?_ GE173.out | refine below_set ?_ GE188.out | refine below_set ?_ GE193.out | refine below_set ?_ GE198.out | refine below_set ?_ GE203.out) | exact HB.out))))
                                have n5_ := sqb BK172 hb
                                have n6_ := sqb BK173 hb
                                have n7_ := sqb BK188 hb
                                have n8_ := sqb BK193 hb
                                have n9_ := sqb BK198 hb
                                have n10_ := sqb BK203 hb
                                have n11_ := sqs HB hb
                                clear HO_189001
                                clear HO_194001
                                clear HO_199001
                                clear HO_204001
                                clear BK172
                                clear BK173
                                clear BK188
                                clear BK193
                                clear BK198
                                clear BK203
                                clear HB
                                have HO_189001 := n0_
                                have HO_194001 := n1_
                                have HO_199001 := n2_
                                have HO_204001 := n3_
                                have HO226 := n4_
                                have BK172 := n5_
                                have BK173 := n6_
                                have BK188 := n7_
                                have BK193 := n8_
                                have BK198 := n9_
                                have BK203 := n10_
                                have HB := n11_
                                clear n0_ n1_ n2_ n3_ n4_ n5_ n6_ n7_ n8_ n9_ n10_ n11_
                                (try clear hb)
                                (try clear hb2)
                                (try clear hk)
                                (try clear hi)
                                (try clear ho0)
                                refine hK.out _ _ sqz (fun hHeld => ?_)
                                clear hK K
                                refine sqnm ?_
                                refine two_ (i := 3) (j := 5) (Ni := some 78) (Nj := some 13) #[true, true, true, true, false, false, false] #[true, true, true, false, false, true, false] rfl rfl rfl rfl (by kernel_rfl) (by decide) (by decide) (fun K hK => ?_) (fun K hK => ?_)
                                · skip
                                  refine sqG Try.func16 #[.agg #[.int .i64 a1_0, .slice A1_1 l1_1.length c1_1]] ?_
                                  with_reducible refine (laws_toGaps.calls kj34 a1_0 _ _ l1_1 t227 t228 _ ?side1 ?side2 A126.out).mono ?_
                                  (case side1 => repeat (first | exact (Kd.C_below HR1_1.out HB.out) | (with_reducible refine Kd.C_alloc ?_ _) | (with_reducible refine Kd.C_drewN ?_ _) | (with_reducible refine Kd.C_drew ?_)))
                                  (case side2 => exact HC1_1.out)
                                  rintro e w179 ⟨v229, rfl, ho0, hb⟩
                                  refine ⟨_, rfl, ?_⟩
                                  have n0_ := Aside0.mk (Kd.R_elder' (by (with_reducible repeat (first | apply Kd.R_alloc | apply Kd.R_drewN | apply Kd.R_drew)); exact HO_189001.out) (Kd.R_base ho0) hb)
                                  have n1_ := Aside0.mk (Kd.R_elder' (by (with_reducible repeat (first | apply Kd.R_alloc | apply Kd.R_drewN | apply Kd.R_drew)); exact HO_194001.out) (Kd.R_base ho0) hb)
                                  have n2_ := Aside0.mk (Kd.R_elder' (by (with_reducible repeat (first | apply Kd.R_alloc | apply Kd.R_drewN | apply Kd.R_drew)); exact HO_199001.out) (Kd.R_base ho0) hb)
                                  have n3_ := Aside0.mk (Kd.R_elder' (by (with_reducible repeat (first | apply Kd.R_alloc | apply Kd.R_drewN | apply Kd.R_drew)); exact HO_204001.out) (Kd.R_base ho0) hb)
                                  have n4_ := Aside0.mk (Kd.R_elder' (by (with_reducible repeat (first | apply Kd.R_alloc | apply Kd.R_drewN | apply Kd.R_drew)); exact HO226.out) (Kd.R_base ho0) hb)
                                  have n5_ := Aside0.mk (Kd.R_lower (Kd.R_new' (Kd.R_new' (Kd.R_new' (Kd.R_new' (Kd.R_new' ho0 (Kd.R_lt (by (with_reducible repeat (first | apply Kd.R_alloc | apply Kd.R_drewN | apply Kd.R_drew)); exact HO_189001.out))) (Kd.R_lt (by (with_reducible repeat (first | apply Kd.R_alloc | apply Kd.R_drewN | apply Kd.R_drew)); exact HO_194001.out))) (Kd.R_lt (by (with_reducible repeat (first | apply Kd.R_alloc | apply Kd.R_drewN | apply Kd.R_drew)); exact HO_199001.out))) (Kd.R_lt (by (with_reducible repeat (first | apply Kd.R_alloc | apply Kd.R_drewN | apply Kd.R_drew)); exact HO_204001.out))) (Kd.R_lt (by (with_reducible repeat (first | apply Kd.R_alloc | apply Kd.R_drewN | apply Kd.R_drew)); exact HO226.out))) (below_size (by repeat (first | (with_reducible first | exact HB.out | apply below_alloc | apply pw_below_drewN | apply below_drew1 | refine below_set ?_ GE172.out | refine below_set ?_ GE173.out | refine below_set ?_ GE188.out | refine below_set ?_ GE193.out | refine below_set ?_ GE198.out | refine below_set ?_ GE203.out) | exact HB.out))))
                                  have n6_ := sqb BK172 hb
                                  have n7_ := sqb BK173 hb
                                  have n8_ := sqb BK188 hb
                                  have n9_ := sqb BK193 hb
                                  have n10_ := sqb BK198 hb
                                  have n11_ := sqb BK203 hb
                                  have n12_ := sqs HB hb
                                  clear HO_189001
                                  clear HO_194001
                                  clear HO_199001
                                  clear HO_204001
                                  clear HO226
                                  clear BK172
                                  clear BK173
                                  clear BK188
                                  clear BK193
                                  clear BK198
                                  clear BK203
                                  clear HB
                                  have HO_189001 := n0_
                                  have HO_194001 := n1_
                                  have HO_199001 := n2_
                                  have HO_204001 := n3_
                                  have HO226 := n4_
                                  have HO230 := n5_
                                  have BK172 := n6_
                                  have BK173 := n7_
                                  have BK188 := n8_
                                  have BK193 := n9_
                                  have BK198 := n10_
                                  have BK203 := n11_
                                  have HB := n12_
                                  clear n0_ n1_ n2_ n3_ n4_ n5_ n6_ n7_ n8_ n9_ n10_ n11_ n12_
                                  (try clear hb)
                                  (try clear hb2)
                                  (try clear hk)
                                  (try clear hi)
                                  (try clear ho0)
                                  obtain ⟨Ao180, co180, eo180⟩ := Kd.R_slice HO226.out
                                  (first | subst eo180 | (injection eo180 with f1_ f2_ f3_; have f4_ := f1_.symm; have f5_ := f3_.symm; clear f1_ f2_ f3_; subst f4_; subst f5_))
                                  obtain ⟨Ao181, co181, eo181⟩ := Kd.R_slice HO230.out
                                  (first | subst eo181 | (injection eo181 with f1_ f2_ f3_; have f4_ := f1_.symm; have f5_ := f3_.symm; clear f1_ f2_ f3_; subst f4_; subst f5_))
                                  refine hK.out _ _ sqz (fun hHeld => ?_)
                                  clear hK K
                                  refine sqnm ?_
                                  refine two_ (i := 4) (j := 5) (Ni := some 79) (Nj := some 13) #[true, true, true, true, true, false, false] #[true, true, true, true, false, true, false] rfl rfl rfl rfl (by kernel_rfl) (by decide) (by decide) (fun K hK => ?_) (fun K hK => ?_)
                                  · skip
                                    refine sqG Try.func21 #[.agg #[.int .i64 t223, .slice Ao180 t224.length co180], .agg #[.int .i64 t227, .slice Ao181 t228.length co181]] ?_
                                    with_reducible refine (impl_GapsWiden.calls kj34 t223 _ _ t224 t227 _ _ t228 t231 t232 _ ?side1 ?side2 ?side3 ?side4 A127.out).mono ?_
                                    (case side1 => repeat (first | exact (Kd.R_reads' HO226.out).2.2 | (with_reducible refine Kd.C_alloc ?_ _) | (with_reducible refine Kd.C_drewN ?_ _) | (with_reducible refine Kd.C_drew ?_)))
                                    (case side2 => exact (Kd.R_reads' HO226.out).2.1)
                                    (case side3 => repeat (first | exact (Kd.R_reads' HO230.out).2.2 | (with_reducible refine Kd.C_alloc ?_ _) | (with_reducible refine Kd.C_drewN ?_ _) | (with_reducible refine Kd.C_drew ?_)))
                                    (case side4 => exact (Kd.R_reads' HO230.out).2.1)
                                    rintro e w182 ⟨v233, rfl, ho0, hb⟩
                                    refine ⟨_, rfl, ?_⟩
                                    have n0_ := Aside0.mk (Kd.R_elder' (by (with_reducible repeat (first | apply Kd.R_alloc | apply Kd.R_drewN | apply Kd.R_drew)); exact HO_189001.out) (Kd.R_base ho0) hb)
                                    have n1_ := Aside0.mk (Kd.R_elder' (by (with_reducible repeat (first | apply Kd.R_alloc | apply Kd.R_drewN | apply Kd.R_drew)); exact HO_194001.out) (Kd.R_base ho0) hb)
                                    have n2_ := Aside0.mk (Kd.R_elder' (by (with_reducible repeat (first | apply Kd.R_alloc | apply Kd.R_drewN | apply Kd.R_drew)); exact HO_199001.out) (Kd.R_base ho0) hb)
                                    have n3_ := Aside0.mk (Kd.R_elder' (by (with_reducible repeat (first | apply Kd.R_alloc | apply Kd.R_drewN | apply Kd.R_drew)); exact HO_204001.out) (Kd.R_base ho0) hb)
                                    have n4_ := Aside0.mk (Kd.R_elder' (by (with_reducible repeat (first | apply Kd.R_alloc | apply Kd.R_drewN | apply Kd.R_drew)); exact HO226.out) (Kd.R_base ho0) hb)
                                    have n5_ := Aside0.mk (Kd.R_elder' (by (with_reducible repeat (first | apply Kd.R_alloc | apply Kd.R_drewN | apply Kd.R_drew)); exact HO230.out) (Kd.R_base ho0) hb)
                                    have n6_ := Aside0.mk (Kd.R_lower (Kd.R_new' (Kd.R_new' (Kd.R_new' (Kd.R_new' (Kd.R_new' (Kd.R_new' ho0 (Kd.R_lt (by (with_reducible repeat (first | apply Kd.R_alloc | apply Kd.R_drewN | apply Kd.R_drew)); exact HO_189001.out))) (Kd.R_lt (by (with_reducible repeat (first | apply Kd.R_alloc | apply Kd.R_drewN | apply Kd.R_drew)); exact HO_194001.out))) (Kd.R_lt (by (with_reducible repeat (first | apply Kd.R_alloc | apply Kd.R_drewN | apply Kd.R_drew)); exact HO_199001.out))) (Kd.R_lt (by (with_reducible repeat (first | apply Kd.R_alloc | apply Kd.R_drewN | apply Kd.R_drew)); exact HO_204001.out))) (Kd.R_lt (by (with_reducible repeat (first | apply Kd.R_alloc | apply Kd.R_drewN | apply Kd.R_drew)); exact HO226.out))) (Kd.R_lt (by (with_reducible repeat (first | apply Kd.R_alloc | apply Kd.R_drewN | apply Kd.R_drew)); exact HO230.out))) (below_size (by repeat (first | (with_reducible first | exact HB.out | apply below_alloc | apply pw_below_drewN | apply below_drew1 | refine below_set ?_ GE172.out | refine below_set ?_ GE173.out | refine below_set ?_ GE188.out | refine below_set ?_ GE193.out | refine below_set ?_ GE198.out | refine below_set ?_ GE203.out) | exact HB.out))))
                                    have n7_ := sqb BK172 hb
                                    have n8_ := sqb BK173 hb
                                    have n9_ := sqb BK188 hb
                                    have n10_ := sqb BK193 hb
                                    have n11_ := sqb BK198 hb
                                    have n12_ := sqb BK203 hb
                                    have n13_ := sqs HB hb
                                    clear HO_189001
                                    clear HO_194001
                                    clear HO_199001
                                    clear HO_204001
                                    clear HO226
                                    clear HO230
                                    clear BK172
                                    clear BK173
                                    clear BK188
                                    clear BK193
                                    clear BK198
                                    clear BK203
                                    clear HB
                                    have HO_189001 := n0_
                                    have HO_194001 := n1_
                                    have HO_199001 := n2_
                                    have HO_204001 := n3_
                                    have HO226 := n4_
                                    have HO230 := n5_
                                    have HO234 := n6_
                                    have BK172 := n7_
                                    have BK173 := n8_
                                    have BK188 := n9_
                                    have BK193 := n10_
                                    have BK198 := n11_
                                    have BK203 := n12_
                                    have HB := n13_
                                    clear n0_ n1_ n2_ n3_ n4_ n5_ n6_ n7_ n8_ n9_ n10_ n11_ n12_ n13_
                                    (try clear hb)
                                    (try clear hb2)
                                    (try clear hk)
                                    (try clear hi)
                                    (try clear ho0)
                                    refine hK.out _ _ sqz (fun hHeld => ?_)
                                    clear hK K
                                    refine sqnm ?_
                                    refine one_ (i := 5) (N := some 13) #[true, true, true, true, true, true, false] rfl rfl (by kernel_rfl) (by decide) (fun K hK => ?_)
                                    refine box_step ?hg (N := 13) ?hd (cs := #[.int .i64 0, .slice none 0 0]) (t := 29) ?hr ?_; (case hd => rfl); (case hg => rfl); (case hr => first | (go_simp; done) | (go_simp; rfl))
                                    intro gb235 hg w183 hbox hb
                                    have n0_ := Aside0.mk (Kd.R_below (by (with_reducible repeat (first | apply Kd.R_alloc | apply Kd.R_drewN | apply Kd.R_drew)); exact HO_189001.out) hb)
                                    have n1_ := Aside0.mk (Kd.R_below (by (with_reducible repeat (first | apply Kd.R_alloc | apply Kd.R_drewN | apply Kd.R_drew)); exact HO_194001.out) hb)
                                    have n2_ := Aside0.mk (Kd.R_below (by (with_reducible repeat (first | apply Kd.R_alloc | apply Kd.R_drewN | apply Kd.R_drew)); exact HO_199001.out) hb)
                                    have n3_ := Aside0.mk (Kd.R_below (by (with_reducible repeat (first | apply Kd.R_alloc | apply Kd.R_drewN | apply Kd.R_drew)); exact HO_204001.out) hb)
                                    have n4_ := Aside0.mk (Kd.R_below (by (with_reducible repeat (first | apply Kd.R_alloc | apply Kd.R_drewN | apply Kd.R_drew)); exact HO226.out) hb)
                                    have n5_ := Aside0.mk (Kd.R_below (by (with_reducible repeat (first | apply Kd.R_alloc | apply Kd.R_drewN | apply Kd.R_drew)); exact HO230.out) hb)
                                    have n6_ := Aside0.mk (Kd.R_below (by (with_reducible repeat (first | apply Kd.R_alloc | apply Kd.R_drewN | apply Kd.R_drew)); exact HO234.out) hb)
                                    have n7_ := sqb BK172 hb
                                    have n8_ := sqb BK173 hb
                                    have n9_ := sqb BK188 hb
                                    have n10_ := sqb BK193 hb
                                    have n11_ := sqb BK198 hb
                                    have n12_ := sqb BK203 hb
                                    have n13_ := sqs HB hb
                                    have n14_ := Aside0.mk (hbox)
                                    have n15_ := sqg HB hg
                                    have n16_ := sqg HB hg
                                    have n17_ := sqn BK172 hg
                                    have n18_ := sqm BK172 hg
                                    have n19_ := sqn BK173 hg
                                    have n20_ := sqm BK173 hg
                                    have n21_ := sqn BK188 hg
                                    have n22_ := sqm BK188 hg
                                    have n23_ := sqn BK193 hg
                                    have n24_ := sqm BK193 hg
                                    have n25_ := sqn BK198 hg
                                    have n26_ := sqm BK198 hg
                                    have n27_ := sqn BK203 hg
                                    have n28_ := sqm BK203 hg
                                    clear HO_189001
                                    clear HO_194001
                                    clear HO_199001
                                    clear HO_204001
                                    clear HO226
                                    clear HO230
                                    clear HO234
                                    clear BK172
                                    clear BK173
                                    clear BK188
                                    clear BK193
                                    clear BK198
                                    clear BK203
                                    clear HB
                                    have HO_189001 := n0_
                                    have HO_194001 := n1_
                                    have HO_199001 := n2_
                                    have HO_204001 := n3_
                                    have HO226 := n4_
                                    have HO230 := n5_
                                    have HO234 := n6_
                                    have BK172 := n7_
                                    have BK173 := n8_
                                    have BK188 := n9_
                                    have BK193 := n10_
                                    have BK198 := n11_
                                    have BK203 := n12_
                                    have HB := n13_
                                    have BK235 := n14_
                                    have GW235 := n15_
                                    have GE235 := n16_
                                    have NB172_235 := n17_
                                    have NB235_172 := n18_
                                    have NB173_235 := n19_
                                    have NB235_173 := n20_
                                    have NB188_235 := n21_
                                    have NB235_188 := n22_
                                    have NB193_235 := n23_
                                    have NB235_193 := n24_
                                    have NB198_235 := n25_
                                    have NB235_198 := n26_
                                    have NB203_235 := n27_
                                    have NB235_203 := n28_
                                    clear n0_ n1_ n2_ n3_ n4_ n5_ n6_ n7_ n8_ n9_ n10_ n11_ n12_ n13_ n14_ n15_ n16_ n17_ n18_ n19_ n20_ n21_ n22_ n23_ n24_ n25_ n26_ n27_ n28_
                                    clear hb hbox hg
                                    refine hK.out _ _ sqz (fun hHeld => ?_)
                                    clear hK K
                                    refine sqnm ?_
                                    exact norm_ (by simp only [putAll, Act.put, List.setIfInBounds_toArray, List.set_cons_zero, List.set_cons_succ]) (hCont (.slice Ao180 t224.length co180, .slice Ao181 t228.length co181, v233, gb235) _ ⟨hHeld, (by (with_reducible repeat (first | apply Kd.R_alloc | apply Kd.R_drewN | apply Kd.R_drew)); exact Kd.R_mono HO226.out (fun _ hk => ⟨hk.1.2, ⟨hk.2, ⟨hk.1.1.1.1.1.2, ⟨hk.1.1.1.1.2, ⟨hk.1.1.1.2, hk.1.1.2⟩⟩⟩⟩⟩)), (by (with_reducible repeat (first | apply Kd.R_alloc | apply Kd.R_drewN | apply Kd.R_drew)); exact Kd.R_mono HO230.out (fun _ hk => ⟨hk.1.2, ⟨hk.2, ⟨hk.1.1.1.1.1.2, ⟨hk.1.1.1.1.2, ⟨hk.1.1.1.2, hk.1.1.2⟩⟩⟩⟩⟩)), (by (with_reducible repeat (first | apply Kd.R_alloc | apply Kd.R_drewN | apply Kd.R_drew)); exact Kd.R_mono HO234.out (fun _ hk => ⟨hk.1.2, ⟨hk.2, ⟨hk.1.1.1.1.1.2, ⟨hk.1.1.1.1.2, ⟨hk.1.1.1.2, hk.1.1.2⟩⟩⟩⟩⟩)), (by (with_reducible repeat (first | apply Kd.R_alloc | apply Kd.R_drewN | apply Kd.R_drew)); exact Kd.R_mono HO_189001.out (fun _ hk => ⟨hk.1.1.2, ⟨hk.1.2, ⟨hk.2, ⟨hk.1.1.1.1, ⟨hk.1.1.1.2.1, hk.1.1.1.2.2⟩⟩⟩⟩⟩)), (by (with_reducible repeat (first | apply Kd.R_alloc | apply Kd.R_drewN | apply Kd.R_drew)); exact Kd.R_mono HO_194001.out (fun _ hk => ⟨hk.1.1.2, ⟨hk.1.2, ⟨hk.2, ⟨hk.1.1.1.1, ⟨hk.1.1.1.2.1, hk.1.1.1.2.2⟩⟩⟩⟩⟩)), (by (with_reducible repeat (first | apply Kd.R_alloc | apply Kd.R_drewN | apply Kd.R_drew)); exact Kd.R_mono HO_199001.out (fun _ hk => ⟨hk.1.1.2, ⟨hk.1.2, ⟨hk.2, ⟨hk.1.1.1.1, ⟨hk.1.1.1.2.1, hk.1.1.1.2.2⟩⟩⟩⟩⟩)), (by (with_reducible repeat (first | apply Kd.R_alloc | apply Kd.R_drewN | apply Kd.R_drew)); exact Kd.R_mono HO_204001.out (fun _ hk => ⟨hk.1.1.2, ⟨hk.1.2, ⟨hk.2, ⟨hk.1.1.1.1, ⟨hk.1.1.1.2.1, hk.1.1.1.2.2⟩⟩⟩⟩⟩)), (by refine sqt ?_; exact BK172.out), (by refine sqt ?_; exact BK173.out), (by refine sqt ?_; exact BK188.out), (by refine sqt ?_; exact BK193.out), (by refine sqt ?_; exact BK198.out), (by refine sqt ?_; exact BK203.out), (by refine sqt ?_; exact BK235.out), GW235.out, GE235.out, NB172_235.out, NB235_172.out, NB173_235.out, NB235_173.out, NB188_235.out, NB235_188.out, NB193_235.out, NB235_193.out, NB198_235.out, NB235_198.out, NB203_235.out, NB235_203.out, (by repeat (first | (with_reducible first | exact HB.out | apply below_alloc | apply pw_below_drewN | apply below_drew1 | refine below_set ?_ GE172.out | refine below_set ?_ GE173.out | refine below_set ?_ GE188.out | refine below_set ?_ GE193.out | refine below_set ?_ GE198.out | refine below_set ?_ GE203.out | refine below_set ?_ GE235.out) | exact HB.out))⟩)
                                  · skip
                                    refine box_step ?hg (N := 13) ?hd (cs := #[.int .i64 0, .slice none 0 0]) (t := 29) ?hr ?_; (case hd => rfl); (case hg => rfl); (case hr => first | (go_simp; done) | (go_simp; rfl))
                                    intro gb235 hg w180 hbox hb
                                    have n0_ := Aside0.mk (Kd.R_below (by (with_reducible repeat (first | apply Kd.R_alloc | apply Kd.R_drewN | apply Kd.R_drew)); exact HO_189001.out) hb)
                                    have n1_ := Aside0.mk (Kd.R_below (by (with_reducible repeat (first | apply Kd.R_alloc | apply Kd.R_drewN | apply Kd.R_drew)); exact HO_194001.out) hb)
                                    have n2_ := Aside0.mk (Kd.R_below (by (with_reducible repeat (first | apply Kd.R_alloc | apply Kd.R_drewN | apply Kd.R_drew)); exact HO_199001.out) hb)
                                    have n3_ := Aside0.mk (Kd.R_below (by (with_reducible repeat (first | apply Kd.R_alloc | apply Kd.R_drewN | apply Kd.R_drew)); exact HO_204001.out) hb)
                                    have n4_ := Aside0.mk (Kd.R_below (by (with_reducible repeat (first | apply Kd.R_alloc | apply Kd.R_drewN | apply Kd.R_drew)); exact HO226.out) hb)
                                    have n5_ := Aside0.mk (Kd.R_below (by (with_reducible repeat (first | apply Kd.R_alloc | apply Kd.R_drewN | apply Kd.R_drew)); exact HO230.out) hb)
                                    have n6_ := sqb BK172 hb
                                    have n7_ := sqb BK173 hb
                                    have n8_ := sqb BK188 hb
                                    have n9_ := sqb BK193 hb
                                    have n10_ := sqb BK198 hb
                                    have n11_ := sqb BK203 hb
                                    have n12_ := sqs HB hb
                                    have n13_ := Aside0.mk (hbox)
                                    have n14_ := sqg HB hg
                                    have n15_ := sqg HB hg
                                    have n16_ := sqn BK172 hg
                                    have n17_ := sqm BK172 hg
                                    have n18_ := sqn BK173 hg
                                    have n19_ := sqm BK173 hg
                                    have n20_ := sqn BK188 hg
                                    have n21_ := sqm BK188 hg
                                    have n22_ := sqn BK193 hg
                                    have n23_ := sqm BK193 hg
                                    have n24_ := sqn BK198 hg
                                    have n25_ := sqm BK198 hg
                                    have n26_ := sqn BK203 hg
                                    have n27_ := sqm BK203 hg
                                    clear HO_189001
                                    clear HO_194001
                                    clear HO_199001
                                    clear HO_204001
                                    clear HO226
                                    clear HO230
                                    clear BK172
                                    clear BK173
                                    clear BK188
                                    clear BK193
                                    clear BK198
                                    clear BK203
                                    clear HB
                                    have HO_189001 := n0_
                                    have HO_194001 := n1_
                                    have HO_199001 := n2_
                                    have HO_204001 := n3_
                                    have HO226 := n4_
                                    have HO230 := n5_
                                    have BK172 := n6_
                                    have BK173 := n7_
                                    have BK188 := n8_
                                    have BK193 := n9_
                                    have BK198 := n10_
                                    have BK203 := n11_
                                    have HB := n12_
                                    have BK235 := n13_
                                    have GW235 := n14_
                                    have GE235 := n15_
                                    have NB172_235 := n16_
                                    have NB235_172 := n17_
                                    have NB173_235 := n18_
                                    have NB235_173 := n19_
                                    have NB188_235 := n20_
                                    have NB235_188 := n21_
                                    have NB193_235 := n22_
                                    have NB235_193 := n23_
                                    have NB198_235 := n24_
                                    have NB235_198 := n25_
                                    have NB203_235 := n26_
                                    have NB235_203 := n27_
                                    clear n0_ n1_ n2_ n3_ n4_ n5_ n6_ n7_ n8_ n9_ n10_ n11_ n12_ n13_ n14_ n15_ n16_ n17_ n18_ n19_ n20_ n21_ n22_ n23_ n24_ n25_ n26_ n27_
                                    clear hb hbox hg
                                    obtain ⟨Ao181, co181, eo181⟩ := Kd.R_slice HO226.out
                                    (first | subst eo181 | (injection eo181 with f1_ f2_ f3_; have f4_ := f1_.symm; have f5_ := f3_.symm; clear f1_ f2_ f3_; subst f4_; subst f5_))
                                    obtain ⟨Ao182, co182, eo182⟩ := Kd.R_slice HO230.out
                                    (first | subst eo182 | (injection eo182 with f1_ f2_ f3_; have f4_ := f1_.symm; have f5_ := f3_.symm; clear f1_ f2_ f3_; subst f4_; subst f5_))
                                    refine hK.out _ _ sqz (fun hHeld => ?_)
                                    clear hK K
                                    refine sqnm ?_
                                    refine one_ (i := 4) (N := some 79) #[true, true, true, true, true, true, false] rfl rfl (by kernel_rfl) (by decide) (fun K hK => ?_)
                                    refine sqG Try.func21 #[.agg #[.int .i64 t223, .slice Ao181 t224.length co181], .agg #[.int .i64 t227, .slice Ao182 t228.length co182]] ?_
                                    with_reducible refine (impl_GapsWiden.calls kj34 t223 _ _ t224 t227 _ _ t228 t231 t232 _ ?side1 ?side2 ?side3 ?side4 A127.out).mono ?_
                                    (case side1 => repeat (first | exact (Kd.R_reads' HO226.out).2.2 | (with_reducible refine Kd.C_alloc ?_ _) | (with_reducible refine Kd.C_drewN ?_ _) | (with_reducible refine Kd.C_drew ?_)))
                                    (case side2 => exact (Kd.R_reads' HO226.out).2.1)
                                    (case side3 => repeat (first | exact (Kd.R_reads' HO230.out).2.2 | (with_reducible refine Kd.C_alloc ?_ _) | (with_reducible refine Kd.C_drewN ?_ _) | (with_reducible refine Kd.C_drew ?_)))
                                    (case side4 => exact (Kd.R_reads' HO230.out).2.1)
                                    rintro e w183 ⟨v233, rfl, ho0, hb⟩
                                    refine ⟨_, rfl, ?_⟩
                                    have n0_ := Aside0.mk (Kd.R_elder' (by (with_reducible repeat (first | apply Kd.R_alloc | apply Kd.R_drewN | apply Kd.R_drew)); exact HO_189001.out) (Kd.R_base ho0) hb)
                                    have n1_ := Aside0.mk (Kd.R_elder' (by (with_reducible repeat (first | apply Kd.R_alloc | apply Kd.R_drewN | apply Kd.R_drew)); exact HO_194001.out) (Kd.R_base ho0) hb)
                                    have n2_ := Aside0.mk (Kd.R_elder' (by (with_reducible repeat (first | apply Kd.R_alloc | apply Kd.R_drewN | apply Kd.R_drew)); exact HO_199001.out) (Kd.R_base ho0) hb)
                                    have n3_ := Aside0.mk (Kd.R_elder' (by (with_reducible repeat (first | apply Kd.R_alloc | apply Kd.R_drewN | apply Kd.R_drew)); exact HO_204001.out) (Kd.R_base ho0) hb)
                                    have n4_ := Aside0.mk (Kd.R_elder' (by (with_reducible repeat (first | apply Kd.R_alloc | apply Kd.R_drewN | apply Kd.R_drew)); exact HO226.out) (Kd.R_base ho0) hb)
                                    have n5_ := Aside0.mk (Kd.R_elder' (by (with_reducible repeat (first | apply Kd.R_alloc | apply Kd.R_drewN | apply Kd.R_drew)); exact HO230.out) (Kd.R_base ho0) hb)
                                    have n6_ := Aside0.mk (Kd.R_lower (Kd.R_new' (Kd.R_new' (Kd.R_new' (Kd.R_new' (Kd.R_new' (Kd.R_new' ho0 (Kd.R_lt (by (with_reducible repeat (first | apply Kd.R_alloc | apply Kd.R_drewN | apply Kd.R_drew)); exact HO_189001.out))) (Kd.R_lt (by (with_reducible repeat (first | apply Kd.R_alloc | apply Kd.R_drewN | apply Kd.R_drew)); exact HO_194001.out))) (Kd.R_lt (by (with_reducible repeat (first | apply Kd.R_alloc | apply Kd.R_drewN | apply Kd.R_drew)); exact HO_199001.out))) (Kd.R_lt (by (with_reducible repeat (first | apply Kd.R_alloc | apply Kd.R_drewN | apply Kd.R_drew)); exact HO_204001.out))) (Kd.R_lt (by (with_reducible repeat (first | apply Kd.R_alloc | apply Kd.R_drewN | apply Kd.R_drew)); exact HO226.out))) (Kd.R_lt (by (with_reducible repeat (first | apply Kd.R_alloc | apply Kd.R_drewN | apply Kd.R_drew)); exact HO230.out))) (below_size (by repeat (first | (with_reducible first | exact HB.out | apply below_alloc | apply pw_below_drewN | apply below_drew1 | refine below_set ?_ GE172.out | refine below_set ?_ GE173.out | refine below_set ?_ GE188.out | refine below_set ?_ GE193.out | refine below_set ?_ GE198.out | refine below_set ?_ GE203.out | refine below_set ?_ GE235.out) | exact HB.out))))
                                    have n7_ := sqb BK172 hb
                                    have n8_ := sqb BK173 hb
                                    have n9_ := sqb BK188 hb
                                    have n10_ := sqb BK193 hb
                                    have n11_ := sqb BK198 hb
                                    have n12_ := sqb BK203 hb
                                    have n13_ := sqb BK235 hb
                                    have n14_ := sqs HB hb
                                    clear HO_189001
                                    clear HO_194001
                                    clear HO_199001
                                    clear HO_204001
                                    clear HO226
                                    clear HO230
                                    clear BK172
                                    clear BK173
                                    clear BK188
                                    clear BK193
                                    clear BK198
                                    clear BK203
                                    clear BK235
                                    clear HB
                                    have HO_189001 := n0_
                                    have HO_194001 := n1_
                                    have HO_199001 := n2_
                                    have HO_204001 := n3_
                                    have HO226 := n4_
                                    have HO230 := n5_
                                    have HO234 := n6_
                                    have BK172 := n7_
                                    have BK173 := n8_
                                    have BK188 := n9_
                                    have BK193 := n10_
                                    have BK198 := n11_
                                    have BK203 := n12_
                                    have BK235 := n13_
                                    have HB := n14_
                                    clear n0_ n1_ n2_ n3_ n4_ n5_ n6_ n7_ n8_ n9_ n10_ n11_ n12_ n13_ n14_
                                    (try clear hb)
                                    (try clear hb2)
                                    (try clear hk)
                                    (try clear hi)
                                    (try clear ho0)
                                    refine hK.out _ _ sqz (fun hHeld => ?_)
                                    clear hK K
                                    refine sqnm ?_
                                    exact norm_ (by simp only [putAll, Act.put, List.setIfInBounds_toArray, List.set_cons_zero, List.set_cons_succ]) (hCont (.slice Ao181 t224.length co181, .slice Ao182 t228.length co182, v233, gb235) _ ⟨hHeld, (by (with_reducible repeat (first | apply Kd.R_alloc | apply Kd.R_drewN | apply Kd.R_drew)); exact Kd.R_mono HO226.out (fun _ hk => ⟨hk.1.2, ⟨hk.2, ⟨hk.1.1.1.1.1.2, ⟨hk.1.1.1.1.2, ⟨hk.1.1.1.2, hk.1.1.2⟩⟩⟩⟩⟩)), (by (with_reducible repeat (first | apply Kd.R_alloc | apply Kd.R_drewN | apply Kd.R_drew)); exact Kd.R_mono HO230.out (fun _ hk => ⟨hk.1.2, ⟨hk.2, ⟨hk.1.1.1.1.1.2, ⟨hk.1.1.1.1.2, ⟨hk.1.1.1.2, hk.1.1.2⟩⟩⟩⟩⟩)), (by (with_reducible repeat (first | apply Kd.R_alloc | apply Kd.R_drewN | apply Kd.R_drew)); exact Kd.R_mono HO234.out (fun _ hk => ⟨hk.1.2, ⟨hk.2, ⟨hk.1.1.1.1.1.2, ⟨hk.1.1.1.1.2, ⟨hk.1.1.1.2, hk.1.1.2⟩⟩⟩⟩⟩)), (by (with_reducible repeat (first | apply Kd.R_alloc | apply Kd.R_drewN | apply Kd.R_drew)); exact Kd.R_mono HO_189001.out (fun _ hk => ⟨hk.1.1.2, ⟨hk.1.2, ⟨hk.2, ⟨hk.1.1.1.1, ⟨hk.1.1.1.2.1, hk.1.1.1.2.2⟩⟩⟩⟩⟩)), (by (with_reducible repeat (first | apply Kd.R_alloc | apply Kd.R_drewN | apply Kd.R_drew)); exact Kd.R_mono HO_194001.out (fun _ hk => ⟨hk.1.1.2, ⟨hk.1.2, ⟨hk.2, ⟨hk.1.1.1.1, ⟨hk.1.1.1.2.1, hk.1.1.1.2.2⟩⟩⟩⟩⟩)), (by (with_reducible repeat (first | apply Kd.R_alloc | apply Kd.R_drewN | apply Kd.R_drew)); exact Kd.R_mono HO_199001.out (fun _ hk => ⟨hk.1.1.2, ⟨hk.1.2, ⟨hk.2, ⟨hk.1.1.1.1, ⟨hk.1.1.1.2.1, hk.1.1.1.2.2⟩⟩⟩⟩⟩)), (by (with_reducible repeat (first | apply Kd.R_alloc | apply Kd.R_drewN | apply Kd.R_drew)); exact Kd.R_mono HO_204001.out (fun _ hk => ⟨hk.1.1.2, ⟨hk.1.2, ⟨hk.2, ⟨hk.1.1.1.1, ⟨hk.1.1.1.2.1, hk.1.1.1.2.2⟩⟩⟩⟩⟩)), (by refine sqt ?_; exact BK172.out), (by refine sqt ?_; exact BK173.out), (by refine sqt ?_; exact BK188.out), (by refine sqt ?_; exact BK193.out), (by refine sqt ?_; exact BK198.out), (by refine sqt ?_; exact BK203.out), (by refine sqt ?_; exact BK235.out), GW235.out, GE235.out, NB172_235.out, NB235_172.out, NB173_235.out, NB235_173.out, NB188_235.out, NB235_188.out, NB193_235.out, NB235_193.out, NB198_235.out, NB235_198.out, NB203_235.out, NB235_203.out, (by repeat (first | (with_reducible first | exact HB.out | apply below_alloc | apply pw_below_drewN | apply below_drew1 | refine below_set ?_ GE172.out | refine below_set ?_ GE173.out | refine below_set ?_ GE188.out | refine below_set ?_ GE193.out | refine below_set ?_ GE198.out | refine below_set ?_ GE203.out | refine below_set ?_ GE235.out) | exact HB.out))⟩)
                                · skip
                                  refine box_step ?hg (N := 13) ?hd (cs := #[.int .i64 0, .slice none 0 0]) (t := 29) ?hr ?_; (case hd => rfl); (case hg => rfl); (case hr => first | (go_simp; done) | (go_simp; rfl))
                                  intro gb235 hg w179 hbox hb
                                  have n0_ := Aside0.mk (Kd.R_below (by (with_reducible repeat (first | apply Kd.R_alloc | apply Kd.R_drewN | apply Kd.R_drew)); exact HO_189001.out) hb)
                                  have n1_ := Aside0.mk (Kd.R_below (by (with_reducible repeat (first | apply Kd.R_alloc | apply Kd.R_drewN | apply Kd.R_drew)); exact HO_194001.out) hb)
                                  have n2_ := Aside0.mk (Kd.R_below (by (with_reducible repeat (first | apply Kd.R_alloc | apply Kd.R_drewN | apply Kd.R_drew)); exact HO_199001.out) hb)
                                  have n3_ := Aside0.mk (Kd.R_below (by (with_reducible repeat (first | apply Kd.R_alloc | apply Kd.R_drewN | apply Kd.R_drew)); exact HO_204001.out) hb)
                                  have n4_ := Aside0.mk (Kd.R_below (by (with_reducible repeat (first | apply Kd.R_alloc | apply Kd.R_drewN | apply Kd.R_drew)); exact HO226.out) hb)
                                  have n5_ := sqb BK172 hb
                                  have n6_ := sqb BK173 hb
                                  have n7_ := sqb BK188 hb
                                  have n8_ := sqb BK193 hb
                                  have n9_ := sqb BK198 hb
                                  have n10_ := sqb BK203 hb
                                  have n11_ := sqs HB hb
                                  have n12_ := Aside0.mk (hbox)
                                  have n13_ := sqg HB hg
                                  have n14_ := sqg HB hg
                                  have n15_ := sqn BK172 hg
                                  have n16_ := sqm BK172 hg
                                  have n17_ := sqn BK173 hg
                                  have n18_ := sqm BK173 hg
                                  have n19_ := sqn BK188 hg
                                  have n20_ := sqm BK188 hg
                                  have n21_ := sqn BK193 hg
                                  have n22_ := sqm BK193 hg
                                  have n23_ := sqn BK198 hg
                                  have n24_ := sqm BK198 hg
                                  have n25_ := sqn BK203 hg
                                  have n26_ := sqm BK203 hg
                                  clear HO_189001
                                  clear HO_194001
                                  clear HO_199001
                                  clear HO_204001
                                  clear HO226
                                  clear BK172
                                  clear BK173
                                  clear BK188
                                  clear BK193
                                  clear BK198
                                  clear BK203
                                  clear HB
                                  have HO_189001 := n0_
                                  have HO_194001 := n1_
                                  have HO_199001 := n2_
                                  have HO_204001 := n3_
                                  have HO226 := n4_
                                  have BK172 := n5_
                                  have BK173 := n6_
                                  have BK188 := n7_
                                  have BK193 := n8_
                                  have BK198 := n9_
                                  have BK203 := n10_
                                  have HB := n11_
                                  have BK235 := n12_
                                  have GW235 := n13_
                                  have GE235 := n14_
                                  have NB172_235 := n15_
                                  have NB235_172 := n16_
                                  have NB173_235 := n17_
                                  have NB235_173 := n18_
                                  have NB188_235 := n19_
                                  have NB235_188 := n20_
                                  have NB193_235 := n21_
                                  have NB235_193 := n22_
                                  have NB198_235 := n23_
                                  have NB235_198 := n24_
                                  have NB203_235 := n25_
                                  have NB235_203 := n26_
                                  clear n0_ n1_ n2_ n3_ n4_ n5_ n6_ n7_ n8_ n9_ n10_ n11_ n12_ n13_ n14_ n15_ n16_ n17_ n18_ n19_ n20_ n21_ n22_ n23_ n24_ n25_ n26_
                                  clear hb hbox hg
                                  refine hK.out _ _ sqz (fun hHeld => ?_)
                                  clear hK K
                                  refine sqnm ?_
                                  refine one_ (i := 3) (N := some 78) #[true, true, true, true, false, true, false] rfl rfl (by kernel_rfl) (by decide) (fun K hK => ?_)
                                  refine sqG Try.func16 #[.agg #[.int .i64 a1_0, .slice A1_1 l1_1.length c1_1]] ?_
                                  with_reducible refine (laws_toGaps.calls kj34 a1_0 _ _ l1_1 t227 t228 _ ?side1 ?side2 A126.out).mono ?_
                                  (case side1 => repeat (first | exact (Kd.C_below HR1_1.out HB.out) | (with_reducible refine Kd.C_alloc ?_ _) | (with_reducible refine Kd.C_drewN ?_ _) | (with_reducible refine Kd.C_drew ?_)))
                                  (case side2 => exact HC1_1.out)
                                  rintro e w180 ⟨v229, rfl, ho0, hb⟩
                                  refine ⟨_, rfl, ?_⟩
                                  have n0_ := Aside0.mk (Kd.R_elder' (by (with_reducible repeat (first | apply Kd.R_alloc | apply Kd.R_drewN | apply Kd.R_drew)); exact HO_189001.out) (Kd.R_base ho0) hb)
                                  have n1_ := Aside0.mk (Kd.R_elder' (by (with_reducible repeat (first | apply Kd.R_alloc | apply Kd.R_drewN | apply Kd.R_drew)); exact HO_194001.out) (Kd.R_base ho0) hb)
                                  have n2_ := Aside0.mk (Kd.R_elder' (by (with_reducible repeat (first | apply Kd.R_alloc | apply Kd.R_drewN | apply Kd.R_drew)); exact HO_199001.out) (Kd.R_base ho0) hb)
                                  have n3_ := Aside0.mk (Kd.R_elder' (by (with_reducible repeat (first | apply Kd.R_alloc | apply Kd.R_drewN | apply Kd.R_drew)); exact HO_204001.out) (Kd.R_base ho0) hb)
                                  have n4_ := Aside0.mk (Kd.R_elder' (by (with_reducible repeat (first | apply Kd.R_alloc | apply Kd.R_drewN | apply Kd.R_drew)); exact HO226.out) (Kd.R_base ho0) hb)
                                  have n5_ := Aside0.mk (Kd.R_lower (Kd.R_new' (Kd.R_new' (Kd.R_new' (Kd.R_new' (Kd.R_new' ho0 (Kd.R_lt (by (with_reducible repeat (first | apply Kd.R_alloc | apply Kd.R_drewN | apply Kd.R_drew)); exact HO_189001.out))) (Kd.R_lt (by (with_reducible repeat (first | apply Kd.R_alloc | apply Kd.R_drewN | apply Kd.R_drew)); exact HO_194001.out))) (Kd.R_lt (by (with_reducible repeat (first | apply Kd.R_alloc | apply Kd.R_drewN | apply Kd.R_drew)); exact HO_199001.out))) (Kd.R_lt (by (with_reducible repeat (first | apply Kd.R_alloc | apply Kd.R_drewN | apply Kd.R_drew)); exact HO_204001.out))) (Kd.R_lt (by (with_reducible repeat (first | apply Kd.R_alloc | apply Kd.R_drewN | apply Kd.R_drew)); exact HO226.out))) (below_size (by repeat (first | (with_reducible first | exact HB.out | apply below_alloc | apply pw_below_drewN | apply below_drew1 | refine below_set ?_ GE172.out | refine below_set ?_ GE173.out | refine below_set ?_ GE188.out | refine below_set ?_ GE193.out | refine below_set ?_ GE198.out | refine below_set ?_ GE203.out | refine below_set ?_ GE235.out) | exact HB.out))))
                                  have n6_ := sqb BK172 hb
                                  have n7_ := sqb BK173 hb
                                  have n8_ := sqb BK188 hb
                                  have n9_ := sqb BK193 hb
                                  have n10_ := sqb BK198 hb
                                  have n11_ := sqb BK203 hb
                                  have n12_ := sqb BK235 hb
                                  have n13_ := sqs HB hb
                                  clear HO_189001
                                  clear HO_194001
                                  clear HO_199001
                                  clear HO_204001
                                  clear HO226
                                  clear BK172
                                  clear BK173
                                  clear BK188
                                  clear BK193
                                  clear BK198
                                  clear BK203
                                  clear BK235
                                  clear HB
                                  have HO_189001 := n0_
                                  have HO_194001 := n1_
                                  have HO_199001 := n2_
                                  have HO_204001 := n3_
                                  have HO226 := n4_
                                  have HO230 := n5_
                                  have BK172 := n6_
                                  have BK173 := n7_
                                  have BK188 := n8_
                                  have BK193 := n9_
                                  have BK198 := n10_
                                  have BK203 := n11_
                                  have BK235 := n12_
                                  have HB := n13_
                                  clear n0_ n1_ n2_ n3_ n4_ n5_ n6_ n7_ n8_ n9_ n10_ n11_ n12_ n13_
                                  (try clear hb)
                                  (try clear hb2)
                                  (try clear hk)
                                  (try clear hi)
                                  (try clear ho0)
                                  obtain ⟨Ao181, co181, eo181⟩ := Kd.R_slice HO226.out
                                  (first | subst eo181 | (injection eo181 with f1_ f2_ f3_; have f4_ := f1_.symm; have f5_ := f3_.symm; clear f1_ f2_ f3_; subst f4_; subst f5_))
                                  obtain ⟨Ao182, co182, eo182⟩ := Kd.R_slice HO230.out
                                  (first | subst eo182 | (injection eo182 with f1_ f2_ f3_; have f4_ := f1_.symm; have f5_ := f3_.symm; clear f1_ f2_ f3_; subst f4_; subst f5_))
                                  refine hK.out _ _ sqz (fun hHeld => ?_)
                                  clear hK K
                                  refine sqnm ?_
                                  refine one_ (i := 4) (N := some 79) #[true, true, true, true, true, true, false] rfl rfl (by kernel_rfl) (by decide) (fun K hK => ?_)
                                  refine sqG Try.func21 #[.agg #[.int .i64 t223, .slice Ao181 t224.length co181], .agg #[.int .i64 t227, .slice Ao182 t228.length co182]] ?_
                                  with_reducible refine (impl_GapsWiden.calls kj34 t223 _ _ t224 t227 _ _ t228 t231 t232 _ ?side1 ?side2 ?side3 ?side4 A127.out).mono ?_
                                  (case side1 => repeat (first | exact (Kd.R_reads' HO226.out).2.2 | (with_reducible refine Kd.C_alloc ?_ _) | (with_reducible refine Kd.C_drewN ?_ _) | (with_reducible refine Kd.C_drew ?_)))
                                  (case side2 => exact (Kd.R_reads' HO226.out).2.1)
                                  (case side3 => repeat (first | exact (Kd.R_reads' HO230.out).2.2 | (with_reducible refine Kd.C_alloc ?_ _) | (with_reducible refine Kd.C_drewN ?_ _) | (with_reducible refine Kd.C_drew ?_)))
                                  (case side4 => exact (Kd.R_reads' HO230.out).2.1)
                                  rintro e w183 ⟨v233, rfl, ho0, hb⟩
                                  refine ⟨_, rfl, ?_⟩
                                  have n0_ := Aside0.mk (Kd.R_elder' (by (with_reducible repeat (first | apply Kd.R_alloc | apply Kd.R_drewN | apply Kd.R_drew)); exact HO_189001.out) (Kd.R_base ho0) hb)
                                  have n1_ := Aside0.mk (Kd.R_elder' (by (with_reducible repeat (first | apply Kd.R_alloc | apply Kd.R_drewN | apply Kd.R_drew)); exact HO_194001.out) (Kd.R_base ho0) hb)
                                  have n2_ := Aside0.mk (Kd.R_elder' (by (with_reducible repeat (first | apply Kd.R_alloc | apply Kd.R_drewN | apply Kd.R_drew)); exact HO_199001.out) (Kd.R_base ho0) hb)
                                  have n3_ := Aside0.mk (Kd.R_elder' (by (with_reducible repeat (first | apply Kd.R_alloc | apply Kd.R_drewN | apply Kd.R_drew)); exact HO_204001.out) (Kd.R_base ho0) hb)
                                  have n4_ := Aside0.mk (Kd.R_elder' (by (with_reducible repeat (first | apply Kd.R_alloc | apply Kd.R_drewN | apply Kd.R_drew)); exact HO226.out) (Kd.R_base ho0) hb)
                                  have n5_ := Aside0.mk (Kd.R_elder' (by (with_reducible repeat (first | apply Kd.R_alloc | apply Kd.R_drewN | apply Kd.R_drew)); exact HO230.out) (Kd.R_base ho0) hb)
                                  have n6_ := Aside0.mk (Kd.R_lower (Kd.R_new' (Kd.R_new' (Kd.R_new' (Kd.R_new' (Kd.R_new' (Kd.R_new' ho0 (Kd.R_lt (by (with_reducible repeat (first | apply Kd.R_alloc | apply Kd.R_drewN | apply Kd.R_drew)); exact HO_189001.out))) (Kd.R_lt (by (with_reducible repeat (first | apply Kd.R_alloc | apply Kd.R_drewN | apply Kd.R_drew)); exact HO_194001.out))) (Kd.R_lt (by (with_reducible repeat (first | apply Kd.R_alloc | apply Kd.R_drewN | apply Kd.R_drew)); exact HO_199001.out))) (Kd.R_lt (by (with_reducible repeat (first | apply Kd.R_alloc | apply Kd.R_drewN | apply Kd.R_drew)); exact HO_204001.out))) (Kd.R_lt (by (with_reducible repeat (first | apply Kd.R_alloc | apply Kd.R_drewN | apply Kd.R_drew)); exact HO226.out))) (Kd.R_lt (by (with_reducible repeat (first | apply Kd.R_alloc | apply Kd.R_drewN | apply Kd.R_drew)); exact HO230.out))) (below_size (by repeat (first | (with_reducible first | exact HB.out | apply below_alloc | apply pw_below_drewN | apply below_drew1 | refine below_set ?_ GE172.out | refine below_set ?_ GE173.out | refine below_set ?_ GE188.out | refine below_set ?_ GE193.out | refine below_set ?_ GE198.out | refine below_set ?_ GE203.out | refine below_set ?_ GE235.out) | exact HB.out))))
                                  have n7_ := sqb BK172 hb
                                  have n8_ := sqb BK173 hb
                                  have n9_ := sqb BK188 hb
                                  have n10_ := sqb BK193 hb
                                  have n11_ := sqb BK198 hb
                                  have n12_ := sqb BK203 hb
                                  have n13_ := sqb BK235 hb
                                  have n14_ := sqs HB hb
                                  clear HO_189001
                                  clear HO_194001
                                  clear HO_199001
                                  clear HO_204001
                                  clear HO226
                                  clear HO230
                                  clear BK172
                                  clear BK173
                                  clear BK188
                                  clear BK193
                                  clear BK198
                                  clear BK203
                                  clear BK235
                                  clear HB
                                  have HO_189001 := n0_
                                  have HO_194001 := n1_
                                  have HO_199001 := n2_
                                  have HO_204001 := n3_
                                  have HO226 := n4_
                                  have HO230 := n5_
                                  have HO234 := n6_
                                  have BK172 := n7_
                                  have BK173 := n8_
                                  have BK188 := n9_
                                  have BK193 := n10_
                                  have BK198 := n11_
                                  have BK203 := n12_
                                  have BK235 := n13_
                                  have HB := n14_
                                  clear n0_ n1_ n2_ n3_ n4_ n5_ n6_ n7_ n8_ n9_ n10_ n11_ n12_ n13_ n14_
                                  (try clear hb)
                                  (try clear hb2)
                                  (try clear hk)
                                  (try clear hi)
                                  (try clear ho0)
                                  refine hK.out _ _ sqz (fun hHeld => ?_)
                                  clear hK K
                                  refine sqnm ?_
                                  exact norm_ (by simp only [putAll, Act.put, List.setIfInBounds_toArray, List.set_cons_zero, List.set_cons_succ]) (hCont (.slice Ao181 t224.length co181, .slice Ao182 t228.length co182, v233, gb235) _ ⟨hHeld, (by (with_reducible repeat (first | apply Kd.R_alloc | apply Kd.R_drewN | apply Kd.R_drew)); exact Kd.R_mono HO226.out (fun _ hk => ⟨hk.1.2, ⟨hk.2, ⟨hk.1.1.1.1.1.2, ⟨hk.1.1.1.1.2, ⟨hk.1.1.1.2, hk.1.1.2⟩⟩⟩⟩⟩)), (by (with_reducible repeat (first | apply Kd.R_alloc | apply Kd.R_drewN | apply Kd.R_drew)); exact Kd.R_mono HO230.out (fun _ hk => ⟨hk.1.2, ⟨hk.2, ⟨hk.1.1.1.1.1.2, ⟨hk.1.1.1.1.2, ⟨hk.1.1.1.2, hk.1.1.2⟩⟩⟩⟩⟩)), (by (with_reducible repeat (first | apply Kd.R_alloc | apply Kd.R_drewN | apply Kd.R_drew)); exact Kd.R_mono HO234.out (fun _ hk => ⟨hk.1.2, ⟨hk.2, ⟨hk.1.1.1.1.1.2, ⟨hk.1.1.1.1.2, ⟨hk.1.1.1.2, hk.1.1.2⟩⟩⟩⟩⟩)), (by (with_reducible repeat (first | apply Kd.R_alloc | apply Kd.R_drewN | apply Kd.R_drew)); exact Kd.R_mono HO_189001.out (fun _ hk => ⟨hk.1.1.2, ⟨hk.1.2, ⟨hk.2, ⟨hk.1.1.1.1, ⟨hk.1.1.1.2.1, hk.1.1.1.2.2⟩⟩⟩⟩⟩)), (by (with_reducible repeat (first | apply Kd.R_alloc | apply Kd.R_drewN | apply Kd.R_drew)); exact Kd.R_mono HO_194001.out (fun _ hk => ⟨hk.1.1.2, ⟨hk.1.2, ⟨hk.2, ⟨hk.1.1.1.1, ⟨hk.1.1.1.2.1, hk.1.1.1.2.2⟩⟩⟩⟩⟩)), (by (with_reducible repeat (first | apply Kd.R_alloc | apply Kd.R_drewN | apply Kd.R_drew)); exact Kd.R_mono HO_199001.out (fun _ hk => ⟨hk.1.1.2, ⟨hk.1.2, ⟨hk.2, ⟨hk.1.1.1.1, ⟨hk.1.1.1.2.1, hk.1.1.1.2.2⟩⟩⟩⟩⟩)), (by (with_reducible repeat (first | apply Kd.R_alloc | apply Kd.R_drewN | apply Kd.R_drew)); exact Kd.R_mono HO_204001.out (fun _ hk => ⟨hk.1.1.2, ⟨hk.1.2, ⟨hk.2, ⟨hk.1.1.1.1, ⟨hk.1.1.1.2.1, hk.1.1.1.2.2⟩⟩⟩⟩⟩)), (by refine sqt ?_; exact BK172.out), (by refine sqt ?_; exact BK173.out), (by refine sqt ?_; exact BK188.out), (by refine sqt ?_; exact BK193.out), (by refine sqt ?_; exact BK198.out), (by refine sqt ?_; exact BK203.out), (by refine sqt ?_; exact BK235.out), GW235.out, GE235.out, NB172_235.out, NB235_172.out, NB173_235.out, NB235_173.out, NB188_235.out, NB235_188.out, NB193_235.out, NB235_193.out, NB198_235.out, NB235_198.out, NB203_235.out, NB235_203.out, (by repeat (first | (with_reducible first | exact HB.out | apply below_alloc | apply pw_below_drewN | apply below_drew1 | refine below_set ?_ GE172.out | refine below_set ?_ GE173.out | refine below_set ?_ GE188.out | refine below_set ?_ GE193.out | refine below_set ?_ GE198.out | refine below_set ?_ GE203.out | refine below_set ?_ GE235.out) | exact HB.out))⟩)
                              · skip
                                refine box_step ?hg (N := 13) ?hd (cs := #[.int .i64 0, .slice none 0 0]) (t := 29) ?hr ?_; (case hd => rfl); (case hg => rfl); (case hr => first | (go_simp; done) | (go_simp; rfl))
                                intro gb235 hg w178 hbox hb
                                have n0_ := Aside0.mk (Kd.R_below (by (with_reducible repeat (first | apply Kd.R_alloc | apply Kd.R_drewN | apply Kd.R_drew)); exact HO_189001.out) hb)
                                have n1_ := Aside0.mk (Kd.R_below (by (with_reducible repeat (first | apply Kd.R_alloc | apply Kd.R_drewN | apply Kd.R_drew)); exact HO_194001.out) hb)
                                have n2_ := Aside0.mk (Kd.R_below (by (with_reducible repeat (first | apply Kd.R_alloc | apply Kd.R_drewN | apply Kd.R_drew)); exact HO_199001.out) hb)
                                have n3_ := Aside0.mk (Kd.R_below (by (with_reducible repeat (first | apply Kd.R_alloc | apply Kd.R_drewN | apply Kd.R_drew)); exact HO_204001.out) hb)
                                have n4_ := sqb BK172 hb
                                have n5_ := sqb BK173 hb
                                have n6_ := sqb BK188 hb
                                have n7_ := sqb BK193 hb
                                have n8_ := sqb BK198 hb
                                have n9_ := sqb BK203 hb
                                have n10_ := sqs HB hb
                                have n11_ := Aside0.mk (hbox)
                                have n12_ := sqg HB hg
                                have n13_ := sqg HB hg
                                have n14_ := sqn BK172 hg
                                have n15_ := sqm BK172 hg
                                have n16_ := sqn BK173 hg
                                have n17_ := sqm BK173 hg
                                have n18_ := sqn BK188 hg
                                have n19_ := sqm BK188 hg
                                have n20_ := sqn BK193 hg
                                have n21_ := sqm BK193 hg
                                have n22_ := sqn BK198 hg
                                have n23_ := sqm BK198 hg
                                have n24_ := sqn BK203 hg
                                have n25_ := sqm BK203 hg
                                clear HO_189001
                                clear HO_194001
                                clear HO_199001
                                clear HO_204001
                                clear BK172
                                clear BK173
                                clear BK188
                                clear BK193
                                clear BK198
                                clear BK203
                                clear HB
                                have HO_189001 := n0_
                                have HO_194001 := n1_
                                have HO_199001 := n2_
                                have HO_204001 := n3_
                                have BK172 := n4_
                                have BK173 := n5_
                                have BK188 := n6_
                                have BK193 := n7_
                                have BK198 := n8_
                                have BK203 := n9_
                                have HB := n10_
                                have BK235 := n11_
                                have GW235 := n12_
                                have GE235 := n13_
                                have NB172_235 := n14_
                                have NB235_172 := n15_
                                have NB173_235 := n16_
                                have NB235_173 := n17_
                                have NB188_235 := n18_
                                have NB235_188 := n19_
                                have NB193_235 := n20_
                                have NB235_193 := n21_
                                have NB198_235 := n22_
                                have NB235_198 := n23_
                                have NB203_235 := n24_
                                have NB235_203 := n25_
                                clear n0_ n1_ n2_ n3_ n4_ n5_ n6_ n7_ n8_ n9_ n10_ n11_ n12_ n13_ n14_ n15_ n16_ n17_ n18_ n19_ n20_ n21_ n22_ n23_ n24_ n25_
                                clear hb hbox hg
                                refine hK.out _ _ sqz (fun hHeld => ?_)
                                clear hK K
                                refine sqnm ?_
                                refine one_ (i := 1) (N := some 76) #[true, true, true, false, false, true, false] rfl rfl (by kernel_rfl) (by decide) (fun K hK => ?_)
                                refine sqG Try.func16 #[.agg #[.int .i64 a0_0, .slice A0_1 l0_1.length c0_1]] ?_
                                with_reducible refine (laws_toGaps.calls kj34 a0_0 _ _ l0_1 t223 t224 _ ?side1 ?side2 A125.out).mono ?_
                                (case side1 => repeat (first | exact (Kd.C_below HR0_1.out HB.out) | (with_reducible refine Kd.C_alloc ?_ _) | (with_reducible refine Kd.C_drewN ?_ _) | (with_reducible refine Kd.C_drew ?_)))
                                (case side2 => exact HC0_1.out)
                                rintro e w179 ⟨v225, rfl, ho0, hb⟩
                                refine ⟨_, rfl, ?_⟩
                                have n0_ := Aside0.mk (Kd.R_elder' (by (with_reducible repeat (first | apply Kd.R_alloc | apply Kd.R_drewN | apply Kd.R_drew)); exact HO_189001.out) (Kd.R_base ho0) hb)
                                have n1_ := Aside0.mk (Kd.R_elder' (by (with_reducible repeat (first | apply Kd.R_alloc | apply Kd.R_drewN | apply Kd.R_drew)); exact HO_194001.out) (Kd.R_base ho0) hb)
                                have n2_ := Aside0.mk (Kd.R_elder' (by (with_reducible repeat (first | apply Kd.R_alloc | apply Kd.R_drewN | apply Kd.R_drew)); exact HO_199001.out) (Kd.R_base ho0) hb)
                                have n3_ := Aside0.mk (Kd.R_elder' (by (with_reducible repeat (first | apply Kd.R_alloc | apply Kd.R_drewN | apply Kd.R_drew)); exact HO_204001.out) (Kd.R_base ho0) hb)
                                have n4_ := Aside0.mk (Kd.R_lower (Kd.R_new' (Kd.R_new' (Kd.R_new' (Kd.R_new' ho0 (Kd.R_lt (by (with_reducible repeat (first | apply Kd.R_alloc | apply Kd.R_drewN | apply Kd.R_drew)); exact HO_189001.out))) (Kd.R_lt (by (with_reducible repeat (first | apply Kd.R_alloc | apply Kd.R_drewN | apply Kd.R_drew)); exact HO_194001.out))) (Kd.R_lt (by (with_reducible repeat (first | apply Kd.R_alloc | apply Kd.R_drewN | apply Kd.R_drew)); exact HO_199001.out))) (Kd.R_lt (by (with_reducible repeat (first | apply Kd.R_alloc | apply Kd.R_drewN | apply Kd.R_drew)); exact HO_204001.out))) (below_size (by repeat (first | (with_reducible first | exact HB.out | apply below_alloc | apply pw_below_drewN | apply below_drew1 | refine below_set ?_ GE172.out | refine below_set ?_ GE173.out | refine below_set ?_ GE188.out | refine below_set ?_ GE193.out | refine below_set ?_ GE198.out | refine below_set ?_ GE203.out | refine below_set ?_ GE235.out) | exact HB.out))))
                                have n5_ := sqb BK172 hb
                                have n6_ := sqb BK173 hb
                                have n7_ := sqb BK188 hb
                                have n8_ := sqb BK193 hb
                                have n9_ := sqb BK198 hb
                                have n10_ := sqb BK203 hb
                                have n11_ := sqb BK235 hb
                                have n12_ := sqs HB hb
                                clear HO_189001
                                clear HO_194001
                                clear HO_199001
                                clear HO_204001
                                clear BK172
                                clear BK173
                                clear BK188
                                clear BK193
                                clear BK198
                                clear BK203
                                clear BK235
                                clear HB
                                have HO_189001 := n0_
                                have HO_194001 := n1_
                                have HO_199001 := n2_
                                have HO_204001 := n3_
                                have HO226 := n4_
                                have BK172 := n5_
                                have BK173 := n6_
                                have BK188 := n7_
                                have BK193 := n8_
                                have BK198 := n9_
                                have BK203 := n10_
                                have BK235 := n11_
                                have HB := n12_
                                clear n0_ n1_ n2_ n3_ n4_ n5_ n6_ n7_ n8_ n9_ n10_ n11_ n12_
                                (try clear hb)
                                (try clear hb2)
                                (try clear hk)
                                (try clear hi)
                                (try clear ho0)
                                refine hK.out _ _ sqz (fun hHeld => ?_)
                                clear hK K
                                refine sqnm ?_
                                refine one_ (i := 3) (N := some 78) #[true, true, true, true, false, true, false] rfl rfl (by kernel_rfl) (by decide) (fun K hK => ?_)
                                refine sqG Try.func16 #[.agg #[.int .i64 a1_0, .slice A1_1 l1_1.length c1_1]] ?_
                                with_reducible refine (laws_toGaps.calls kj34 a1_0 _ _ l1_1 t227 t228 _ ?side1 ?side2 A126.out).mono ?_
                                (case side1 => repeat (first | exact (Kd.C_below HR1_1.out HB.out) | (with_reducible refine Kd.C_alloc ?_ _) | (with_reducible refine Kd.C_drewN ?_ _) | (with_reducible refine Kd.C_drew ?_)))
                                (case side2 => exact HC1_1.out)
                                rintro e w180 ⟨v229, rfl, ho0, hb⟩
                                refine ⟨_, rfl, ?_⟩
                                have n0_ := Aside0.mk (Kd.R_elder' (by (with_reducible repeat (first | apply Kd.R_alloc | apply Kd.R_drewN | apply Kd.R_drew)); exact HO_189001.out) (Kd.R_base ho0) hb)
                                have n1_ := Aside0.mk (Kd.R_elder' (by (with_reducible repeat (first | apply Kd.R_alloc | apply Kd.R_drewN | apply Kd.R_drew)); exact HO_194001.out) (Kd.R_base ho0) hb)
                                have n2_ := Aside0.mk (Kd.R_elder' (by (with_reducible repeat (first | apply Kd.R_alloc | apply Kd.R_drewN | apply Kd.R_drew)); exact HO_199001.out) (Kd.R_base ho0) hb)
                                have n3_ := Aside0.mk (Kd.R_elder' (by (with_reducible repeat (first | apply Kd.R_alloc | apply Kd.R_drewN | apply Kd.R_drew)); exact HO_204001.out) (Kd.R_base ho0) hb)
                                have n4_ := Aside0.mk (Kd.R_elder' (by (with_reducible repeat (first | apply Kd.R_alloc | apply Kd.R_drewN | apply Kd.R_drew)); exact HO226.out) (Kd.R_base ho0) hb)
                                have n5_ := Aside0.mk (Kd.R_lower (Kd.R_new' (Kd.R_new' (Kd.R_new' (Kd.R_new' (Kd.R_new' ho0 (Kd.R_lt (by (with_reducible repeat (first | apply Kd.R_alloc | apply Kd.R_drewN | apply Kd.R_drew)); exact HO_189001.out))) (Kd.R_lt (by (with_reducible repeat (first | apply Kd.R_alloc | apply Kd.R_drewN | apply Kd.R_drew)); exact HO_194001.out))) (Kd.R_lt (by (with_reducible repeat (first | apply Kd.R_alloc | apply Kd.R_drewN | apply Kd.R_drew)); exact HO_199001.out))) (Kd.R_lt (by (with_reducible repeat (first | apply Kd.R_alloc | apply Kd.R_drewN | apply Kd.R_drew)); exact HO_204001.out))) (Kd.R_lt (by (with_reducible repeat (first | apply Kd.R_alloc | apply Kd.R_drewN | apply Kd.R_drew)); exact HO226.out))) (below_size (by repeat (first | (with_reducible first | exact HB.out | apply below_alloc | apply pw_below_drewN | apply below_drew1 | refine below_set ?_ GE172.out | refine below_set ?_ GE173.out | refine below_set ?_ GE188.out | refine below_set ?_ GE193.out | refine below_set ?_ GE198.out | refine below_set ?_ GE203.out | refine below_set ?_ GE235.out) | exact HB.out))))
                                have n6_ := sqb BK172 hb
                                have n7_ := sqb BK173 hb
                                have n8_ := sqb BK188 hb
                                have n9_ := sqb BK193 hb
                                have n10_ := sqb BK198 hb
                                have n11_ := sqb BK203 hb
                                have n12_ := sqb BK235 hb
                                have n13_ := sqs HB hb
                                clear HO_189001
                                clear HO_194001
                                clear HO_199001
                                clear HO_204001
                                clear HO226
                                clear BK172
                                clear BK173
                                clear BK188
                                clear BK193
                                clear BK198
                                clear BK203
                                clear BK235
                                clear HB
                                have HO_189001 := n0_
                                have HO_194001 := n1_
                                have HO_199001 := n2_
                                have HO_204001 := n3_
                                have HO226 := n4_
                                have HO230 := n5_
                                have BK172 := n6_
                                have BK173 := n7_
                                have BK188 := n8_
                                have BK193 := n9_
                                have BK198 := n10_
                                have BK203 := n11_
                                have BK235 := n12_
                                have HB := n13_
                                clear n0_ n1_ n2_ n3_ n4_ n5_ n6_ n7_ n8_ n9_ n10_ n11_ n12_ n13_
                                (try clear hb)
                                (try clear hb2)
                                (try clear hk)
                                (try clear hi)
                                (try clear ho0)
                                obtain ⟨Ao181, co181, eo181⟩ := Kd.R_slice HO226.out
                                (first | subst eo181 | (injection eo181 with f1_ f2_ f3_; have f4_ := f1_.symm; have f5_ := f3_.symm; clear f1_ f2_ f3_; subst f4_; subst f5_))
                                obtain ⟨Ao182, co182, eo182⟩ := Kd.R_slice HO230.out
                                (first | subst eo182 | (injection eo182 with f1_ f2_ f3_; have f4_ := f1_.symm; have f5_ := f3_.symm; clear f1_ f2_ f3_; subst f4_; subst f5_))
                                refine hK.out _ _ sqz (fun hHeld => ?_)
                                clear hK K
                                refine sqnm ?_
                                refine one_ (i := 4) (N := some 79) #[true, true, true, true, true, true, false] rfl rfl (by kernel_rfl) (by decide) (fun K hK => ?_)
                                refine sqG Try.func21 #[.agg #[.int .i64 t223, .slice Ao181 t224.length co181], .agg #[.int .i64 t227, .slice Ao182 t228.length co182]] ?_
                                with_reducible refine (impl_GapsWiden.calls kj34 t223 _ _ t224 t227 _ _ t228 t231 t232 _ ?side1 ?side2 ?side3 ?side4 A127.out).mono ?_
                                (case side1 => repeat (first | exact (Kd.R_reads' HO226.out).2.2 | (with_reducible refine Kd.C_alloc ?_ _) | (with_reducible refine Kd.C_drewN ?_ _) | (with_reducible refine Kd.C_drew ?_)))
                                (case side2 => exact (Kd.R_reads' HO226.out).2.1)
                                (case side3 => repeat (first | exact (Kd.R_reads' HO230.out).2.2 | (with_reducible refine Kd.C_alloc ?_ _) | (with_reducible refine Kd.C_drewN ?_ _) | (with_reducible refine Kd.C_drew ?_)))
                                (case side4 => exact (Kd.R_reads' HO230.out).2.1)
                                rintro e w183 ⟨v233, rfl, ho0, hb⟩
                                refine ⟨_, rfl, ?_⟩
                                have n0_ := Aside0.mk (Kd.R_elder' (by (with_reducible repeat (first | apply Kd.R_alloc | apply Kd.R_drewN | apply Kd.R_drew)); exact HO_189001.out) (Kd.R_base ho0) hb)
                                have n1_ := Aside0.mk (Kd.R_elder' (by (with_reducible repeat (first | apply Kd.R_alloc | apply Kd.R_drewN | apply Kd.R_drew)); exact HO_194001.out) (Kd.R_base ho0) hb)
                                have n2_ := Aside0.mk (Kd.R_elder' (by (with_reducible repeat (first | apply Kd.R_alloc | apply Kd.R_drewN | apply Kd.R_drew)); exact HO_199001.out) (Kd.R_base ho0) hb)
                                have n3_ := Aside0.mk (Kd.R_elder' (by (with_reducible repeat (first | apply Kd.R_alloc | apply Kd.R_drewN | apply Kd.R_drew)); exact HO_204001.out) (Kd.R_base ho0) hb)
                                have n4_ := Aside0.mk (Kd.R_elder' (by (with_reducible repeat (first | apply Kd.R_alloc | apply Kd.R_drewN | apply Kd.R_drew)); exact HO226.out) (Kd.R_base ho0) hb)
                                have n5_ := Aside0.mk (Kd.R_elder' (by (with_reducible repeat (first | apply Kd.R_alloc | apply Kd.R_drewN | apply Kd.R_drew)); exact HO230.out) (Kd.R_base ho0) hb)
                                have n6_ := Aside0.mk (Kd.R_lower (Kd.R_new' (Kd.R_new' (Kd.R_new' (Kd.R_new' (Kd.R_new' (Kd.R_new' ho0 (Kd.R_lt (by (with_reducible repeat (first | apply Kd.R_alloc | apply Kd.R_drewN | apply Kd.R_drew)); exact HO_189001.out))) (Kd.R_lt (by (with_reducible repeat (first | apply Kd.R_alloc | apply Kd.R_drewN | apply Kd.R_drew)); exact HO_194001.out))) (Kd.R_lt (by (with_reducible repeat (first | apply Kd.R_alloc | apply Kd.R_drewN | apply Kd.R_drew)); exact HO_199001.out))) (Kd.R_lt (by (with_reducible repeat (first | apply Kd.R_alloc | apply Kd.R_drewN | apply Kd.R_drew)); exact HO_204001.out))) (Kd.R_lt (by (with_reducible repeat (first | apply Kd.R_alloc | apply Kd.R_drewN | apply Kd.R_drew)); exact HO226.out))) (Kd.R_lt (by (with_reducible repeat (first | apply Kd.R_alloc | apply Kd.R_drewN | apply Kd.R_drew)); exact HO230.out))) (below_size (by repeat (first | (with_reducible first | exact HB.out | apply below_alloc | apply pw_below_drewN | apply below_drew1 | refine below_set ?_ GE172.out | refine below_set ?_ GE173.out | refine below_set ?_ GE188.out | refine below_set ?_ GE193.out | refine below_set ?_ GE198.out | refine below_set ?_ GE203.out | refine below_set ?_ GE235.out) | exact HB.out))))
                                have n7_ := sqb BK172 hb
                                have n8_ := sqb BK173 hb
                                have n9_ := sqb BK188 hb
                                have n10_ := sqb BK193 hb
                                have n11_ := sqb BK198 hb
                                have n12_ := sqb BK203 hb
                                have n13_ := sqb BK235 hb
                                have n14_ := sqs HB hb
                                clear HO_189001
                                clear HO_194001
                                clear HO_199001
                                clear HO_204001
                                clear HO226
                                clear HO230
                                clear BK172
                                clear BK173
                                clear BK188
                                clear BK193
                                clear BK198
                                clear BK203
                                clear BK235
                                clear HB
                                have HO_189001 := n0_
                                have HO_194001 := n1_
                                have HO_199001 := n2_
                                have HO_204001 := n3_
                                have HO226 := n4_
                                have HO230 := n5_
                                have HO234 := n6_
                                have BK172 := n7_
                                have BK173 := n8_
                                have BK188 := n9_
                                have BK193 := n10_
                                have BK198 := n11_
                                have BK203 := n12_
                                have BK235 := n13_
                                have HB := n14_
                                clear n0_ n1_ n2_ n3_ n4_ n5_ n6_ n7_ n8_ n9_ n10_ n11_ n12_ n13_ n14_
                                (try clear hb)
                                (try clear hb2)
                                (try clear hk)
                                (try clear hi)
                                (try clear ho0)
                                refine hK.out _ _ sqz (fun hHeld => ?_)
                                clear hK K
                                refine sqnm ?_
                                exact norm_ (by simp only [putAll, Act.put, List.setIfInBounds_toArray, List.set_cons_zero, List.set_cons_succ]) (hCont (.slice Ao181 t224.length co181, .slice Ao182 t228.length co182, v233, gb235) _ ⟨hHeld, (by (with_reducible repeat (first | apply Kd.R_alloc | apply Kd.R_drewN | apply Kd.R_drew)); exact Kd.R_mono HO226.out (fun _ hk => ⟨hk.1.2, ⟨hk.2, ⟨hk.1.1.1.1.1.2, ⟨hk.1.1.1.1.2, ⟨hk.1.1.1.2, hk.1.1.2⟩⟩⟩⟩⟩)), (by (with_reducible repeat (first | apply Kd.R_alloc | apply Kd.R_drewN | apply Kd.R_drew)); exact Kd.R_mono HO230.out (fun _ hk => ⟨hk.1.2, ⟨hk.2, ⟨hk.1.1.1.1.1.2, ⟨hk.1.1.1.1.2, ⟨hk.1.1.1.2, hk.1.1.2⟩⟩⟩⟩⟩)), (by (with_reducible repeat (first | apply Kd.R_alloc | apply Kd.R_drewN | apply Kd.R_drew)); exact Kd.R_mono HO234.out (fun _ hk => ⟨hk.1.2, ⟨hk.2, ⟨hk.1.1.1.1.1.2, ⟨hk.1.1.1.1.2, ⟨hk.1.1.1.2, hk.1.1.2⟩⟩⟩⟩⟩)), (by (with_reducible repeat (first | apply Kd.R_alloc | apply Kd.R_drewN | apply Kd.R_drew)); exact Kd.R_mono HO_189001.out (fun _ hk => ⟨hk.1.1.2, ⟨hk.1.2, ⟨hk.2, ⟨hk.1.1.1.1, ⟨hk.1.1.1.2.1, hk.1.1.1.2.2⟩⟩⟩⟩⟩)), (by (with_reducible repeat (first | apply Kd.R_alloc | apply Kd.R_drewN | apply Kd.R_drew)); exact Kd.R_mono HO_194001.out (fun _ hk => ⟨hk.1.1.2, ⟨hk.1.2, ⟨hk.2, ⟨hk.1.1.1.1, ⟨hk.1.1.1.2.1, hk.1.1.1.2.2⟩⟩⟩⟩⟩)), (by (with_reducible repeat (first | apply Kd.R_alloc | apply Kd.R_drewN | apply Kd.R_drew)); exact Kd.R_mono HO_199001.out (fun _ hk => ⟨hk.1.1.2, ⟨hk.1.2, ⟨hk.2, ⟨hk.1.1.1.1, ⟨hk.1.1.1.2.1, hk.1.1.1.2.2⟩⟩⟩⟩⟩)), (by (with_reducible repeat (first | apply Kd.R_alloc | apply Kd.R_drewN | apply Kd.R_drew)); exact Kd.R_mono HO_204001.out (fun _ hk => ⟨hk.1.1.2, ⟨hk.1.2, ⟨hk.2, ⟨hk.1.1.1.1, ⟨hk.1.1.1.2.1, hk.1.1.1.2.2⟩⟩⟩⟩⟩)), (by refine sqt ?_; exact BK172.out), (by refine sqt ?_; exact BK173.out), (by refine sqt ?_; exact BK188.out), (by refine sqt ?_; exact BK193.out), (by refine sqt ?_; exact BK198.out), (by refine sqt ?_; exact BK203.out), (by refine sqt ?_; exact BK235.out), GW235.out, GE235.out, NB172_235.out, NB235_172.out, NB173_235.out, NB235_173.out, NB188_235.out, NB235_188.out, NB193_235.out, NB235_193.out, NB198_235.out, NB235_198.out, NB203_235.out, NB235_203.out, (by repeat (first | (with_reducible first | exact HB.out | apply below_alloc | apply pw_below_drewN | apply below_drew1 | refine below_set ?_ GE172.out | refine below_set ?_ GE173.out | refine below_set ?_ GE188.out | refine below_set ?_ GE193.out | refine below_set ?_ GE198.out | refine below_set ?_ GE203.out | refine below_set ?_ GE235.out) | exact HB.out))⟩)
                            rintro ⟨v225, v229, v233, gb235⟩ w184 ⟨hS_, h0_, h1_, h2_, h3_, h4_, h5_, h6_, h7_, h8_, h9_, h10_, h11_, h12_, h13_, h14_, h15_, h16_, h17_, h18_, h19_, h20_, h21_, h22_, h23_, h24_, h25_, h26_, h27_, h28_⟩
                            have n0_ : Aside0 (Kd.R (Kd.int .i64) 3 w184 w.heap.size (fun k_ => some k_ ≠ (v229 : Value).ownBlock ∧ some k_ ≠ (v233 : Value).ownBlock ∧ some k_ ≠ (.slice Ao52 t185.length co52 : Value).ownBlock ∧ some k_ ≠ (.slice Ao62 t216.length co62 : Value).ownBlock ∧ some k_ ≠ (.slice Ao72 t218.length co72 : Value).ownBlock ∧ some k_ ≠ (.slice Ao82 t200.length co82 : Value).ownBlock) v225 t224) := ⟨h0_⟩
                            have n1_ : Aside0 (Kd.R (Kd.int .i64) 3 w184 w.heap.size (fun k_ => some k_ ≠ (v225 : Value).ownBlock ∧ some k_ ≠ (v233 : Value).ownBlock ∧ some k_ ≠ (.slice Ao52 t185.length co52 : Value).ownBlock ∧ some k_ ≠ (.slice Ao62 t216.length co62 : Value).ownBlock ∧ some k_ ≠ (.slice Ao72 t218.length co72 : Value).ownBlock ∧ some k_ ≠ (.slice Ao82 t200.length co82 : Value).ownBlock) v229 t228) := ⟨h1_⟩
                            have n2_ : Aside0 (Kd.R (Kd.int .i64) 3 w184 w.heap.size (fun k_ => some k_ ≠ (v225 : Value).ownBlock ∧ some k_ ≠ (v229 : Value).ownBlock ∧ some k_ ≠ (.slice Ao52 t185.length co52 : Value).ownBlock ∧ some k_ ≠ (.slice Ao62 t216.length co62 : Value).ownBlock ∧ some k_ ≠ (.slice Ao72 t218.length co72 : Value).ownBlock ∧ some k_ ≠ (.slice Ao82 t200.length co82 : Value).ownBlock) v233 t232) := ⟨h2_⟩
                            have n3_ : Aside0 (Kd.R (Kd.int .i64) 3 w184 w.heap.size (fun k_ => some k_ ≠ (v225 : Value).ownBlock ∧ some k_ ≠ (v229 : Value).ownBlock ∧ some k_ ≠ (v233 : Value).ownBlock ∧ some k_ ≠ (.slice Ao62 t216.length co62 : Value).ownBlock ∧ some k_ ≠ (.slice Ao72 t218.length co72 : Value).ownBlock ∧ some k_ ≠ (.slice Ao82 t200.length co82 : Value).ownBlock) (.slice Ao52 t185.length co52) t185) := ⟨h3_⟩
                            have n4_ : Aside0 (Kd.R (Kd.int .i64) 3 w184 w.heap.size (fun k_ => some k_ ≠ (v225 : Value).ownBlock ∧ some k_ ≠ (v229 : Value).ownBlock ∧ some k_ ≠ (v233 : Value).ownBlock ∧ some k_ ≠ (.slice Ao52 t185.length co52 : Value).ownBlock ∧ some k_ ≠ (.slice Ao72 t218.length co72 : Value).ownBlock ∧ some k_ ≠ (.slice Ao82 t200.length co82 : Value).ownBlock) (.slice Ao62 t216.length co62) t216) := ⟨h4_⟩
                            have n5_ : Aside0 (Kd.R (Kd.int .i64) 3 w184 w.heap.size (fun k_ => some k_ ≠ (v225 : Value).ownBlock ∧ some k_ ≠ (v229 : Value).ownBlock ∧ some k_ ≠ (v233 : Value).ownBlock ∧ some k_ ≠ (.slice Ao52 t185.length co52 : Value).ownBlock ∧ some k_ ≠ (.slice Ao62 t216.length co62 : Value).ownBlock ∧ some k_ ≠ (.slice Ao82 t200.length co82 : Value).ownBlock) (.slice Ao72 t218.length co72) t218) := ⟨h5_⟩
                            have n6_ : Aside0 (Kd.R (Kd.int .i64) 3 w184 w.heap.size (fun k_ => some k_ ≠ (v225 : Value).ownBlock ∧ some k_ ≠ (v229 : Value).ownBlock ∧ some k_ ≠ (v233 : Value).ownBlock ∧ some k_ ≠ (.slice Ao52 t185.length co52 : Value).ownBlock ∧ some k_ ≠ (.slice Ao62 t216.length co62 : Value).ownBlock ∧ some k_ ≠ (.slice Ao72 t218.length co72 : Value).ownBlock) (.slice Ao82 t200.length co82) t221) := ⟨h6_⟩
                            have n7_ : Aside0 (w184.heap[gb172]? = some (.cells #[.int .i64 a0_0, .slice A0_1 l0_1.length c0_1] 24 (0, 0))) := ⟨h7_⟩
                            have n8_ : Aside0 (w184.heap[gb173]? = some (.cells #[.int .i64 a1_0, .slice A1_1 l1_1.length c1_1] 24 (0, 0))) := ⟨h8_⟩
                            have n9_ : Aside0 (w184.heap[gb188]? = some (.cells #[.int .i64 t184, .slice Ao52 t185.length co52] 29 (0, 0))) := ⟨h9_⟩
                            have n10_ : Aside0 (w184.heap[gb193]? = some (.cells #[.int .i64 t189, .slice Ao62 t216.length co62] 29 (0, 0))) := ⟨h10_⟩
                            have n11_ : Aside0 (w184.heap[gb198]? = some (.cells #[.int .i64 t194, .slice Ao72 t218.length co72] 29 (0, 0))) := ⟨h11_⟩
                            have n12_ : Aside0 (w184.heap[gb203]? = some (.cells #[.int .i64 t199, .slice Ao82 t200.length co82] 29 (0, 0))) := ⟨h12_⟩
                            have n13_ : Aside0 (w184.heap[gb235]? = some (.cells #[.int .i64 0, .slice none 0 0] 29 (0, 0))) := ⟨h13_⟩
                            have n14_ : Aside0 (w.heap.size ≤ gb235) := ⟨h14_⟩
                            have n15_ : Aside0 (w.heap.size ≤ gb235) := ⟨h15_⟩
                            have n16_ : Aside0 (gb172 ≠ gb235) := ⟨h16_⟩
                            have n17_ : Aside0 (gb235 ≠ gb172) := ⟨h17_⟩
                            have n18_ : Aside0 (gb173 ≠ gb235) := ⟨h18_⟩
                            have n19_ : Aside0 (gb235 ≠ gb173) := ⟨h19_⟩
                            have n20_ : Aside0 (gb188 ≠ gb235) := ⟨h20_⟩
                            have n21_ : Aside0 (gb235 ≠ gb188) := ⟨h21_⟩
                            have n22_ : Aside0 (gb193 ≠ gb235) := ⟨h22_⟩
                            have n23_ : Aside0 (gb235 ≠ gb193) := ⟨h23_⟩
                            have n24_ : Aside0 (gb198 ≠ gb235) := ⟨h24_⟩
                            have n25_ : Aside0 (gb235 ≠ gb198) := ⟨h25_⟩
                            have n26_ : Aside0 (gb203 ≠ gb235) := ⟨h26_⟩
                            have n27_ : Aside0 (gb235 ≠ gb203) := ⟨h27_⟩
                            have n28_ : Aside0 (Below w.heap.size w w184) := ⟨h28_⟩
                            clear HO_189001
                            clear HO_194001
                            clear HO_199001
                            clear HO_204001
                            clear BK172
                            clear BK173
                            clear BK188
                            clear BK193
                            clear BK198
                            clear BK203
                            clear HB
                            clear h0_ h1_ h2_ h3_ h4_ h5_ h6_ h7_ h8_ h9_ h10_ h11_ h12_ h13_ h14_ h15_ h16_ h17_ h18_ h19_ h20_ h21_ h22_ h23_ h24_ h25_ h26_ h27_ h28_
                            have HO226 := n0_
                            have HO230 := n1_
                            have HO234 := n2_
                            have HO_189001 := n3_
                            have HO_194001 := n4_
                            have HO_199001 := n5_
                            have HO_204001 := n6_
                            have BK172 := n7_
                            have BK173 := n8_
                            have BK188 := n9_
                            have BK193 := n10_
                            have BK198 := n11_
                            have BK203 := n12_
                            have BK235 := n13_
                            have GW235 := n14_
                            have GE235 := n15_
                            have NB172_235 := n16_
                            have NB235_172 := n17_
                            have NB173_235 := n18_
                            have NB235_173 := n19_
                            have NB188_235 := n20_
                            have NB235_188 := n21_
                            have NB193_235 := n22_
                            have NB235_193 := n23_
                            have NB198_235 := n24_
                            have NB235_198 := n25_
                            have NB203_235 := n26_
                            have NB235_203 := n27_
                            have HB := n28_
                            clear n0_ n1_ n2_ n3_ n4_ n5_ n6_ n7_ n8_ n9_ n10_ n11_ n12_ n13_ n14_ n15_ n16_ n17_ n18_ n19_ n20_ n21_ n22_ n23_ n24_ n25_ n26_ n27_ n28_
                            have hHeld : w184.cell? ⟨gb172, 0, none⟩ = some (.int .i64 a0_0) ∧ w184.cell? ⟨gb172, 1, none⟩ = some (.slice A0_1 l0_1.length c0_1) ∧ w184.cell? ⟨gb173, 0, none⟩ = some (.int .i64 a1_0) ∧ w184.cell? ⟨gb173, 1, none⟩ = some (.slice A1_1 l1_1.length c1_1) := hS_
                            obtain ⟨Ao186, co186, eo186⟩ := Kd.R_slice HO234.out
                            (first | subst eo186 | (injection eo186 with f1_ f2_ f3_; have f4_ := f1_.symm; have f5_ := f3_.symm; clear f1_ f2_ f3_; subst f4_; subst f5_))
                            refine norm_ (a' := ?_) ?_ ?_
                            rotate_left
                            · simp only [putAll, Act.put, List.setIfInBounds_toArray, List.set_cons_zero, List.set_cons_succ]
                              rfl
                            refine one_ (i := 6) (N := none) #[true, true, true, true, true, true, true] rfl rfl (by kernel_rfl) (by decide) (fun K hK => ?_)
                            have hs185 : w184.cell? ⟨gb235, 0, none⟩ = some (.int .i64 0) := (blk_cell BK235.out 0).trans rfl
                            have hfs185 := blk_frozen BK235.out 0
                            have hns185_0 := NB172_235.out
                            have hns185_1 := NB173_235.out
                            have hns185_2 := NB188_235.out
                            have hns185_3 := NB193_235.out
                            have hns185_4 := NB198_235.out
                            have hns185_5 := NB203_235.out
                            have hms185_0 := NB235_172.out
                            have hms185_1 := NB235_173.out
                            have hms185_2 := NB235_188.out
                            have hms185_3 := NB235_193.out
                            have hms185_4 := NB235_198.out
                            have hms185_5 := NB235_203.out
                            have hs187 : w184.cell? ⟨gb235, 1, none⟩ = some (.slice none 0 0) := (blk_cell BK235.out 1).trans rfl
                            have hfs187 := blk_frozen BK235.out 1
                            have hns187_0 := NB172_235.out
                            have hns187_1 := NB173_235.out
                            have hns187_2 := NB188_235.out
                            have hns187_3 := NB193_235.out
                            have hns187_4 := NB198_235.out
                            have hns187_5 := NB203_235.out
                            have hms187_0 := NB235_172.out
                            have hms187_1 := NB235_173.out
                            have hms187_2 := NB235_188.out
                            have hms187_3 := NB235_193.out
                            have hms187_4 := NB235_198.out
                            have hms187_5 := NB235_203.out
                            refine skip_ (w1 := ?_) (by rfl) rfl ?_ ?_
                            rotate_left
                            · go_simp
                              rfl
                            refine hK.out _ _ ⟨((cell_far (p := ⟨gb235, _, none⟩) NB172_235.out _).trans (((cell_far (p := ⟨gb235, _, none⟩) NB172_235.out _).trans (hHeld.1)))), ((cell_far (p := ⟨gb235, _, none⟩) NB172_235.out _).trans (((cell_far (p := ⟨gb235, _, none⟩) NB172_235.out _).trans (hHeld.2.1)))), ((cell_far (p := ⟨gb235, _, none⟩) NB173_235.out _).trans (((cell_far (p := ⟨gb235, _, none⟩) NB173_235.out _).trans (hHeld.2.2.1)))), ((cell_far (p := ⟨gb235, _, none⟩) NB173_235.out _).trans (((cell_far (p := ⟨gb235, _, none⟩) NB173_235.out _).trans (hHeld.2.2.2))))⟩ (fun hHeld => ?_)
                            clear hK K
                            refine done_ (by kernel_rfl) ?_
                            have hnb188 := NB235_172.out
                            have hnc188 := NB172_235.out
                            have hnb189 := NB235_173.out
                            have hnc189 := NB173_235.out
                            have hnb190 := NB235_188.out
                            have hnc190 := NB188_235.out
                            have hnb191 := NB235_193.out
                            have hnc191 := NB193_235.out
                            have hnb192 := NB235_198.out
                            have hnc192 := NB198_235.out
                            have hnb193 := NB235_203.out
                            have hnc193 := NB203_235.out
                            obtain ⟨hcz194_0, hcz194_1, hfz194_0, hfz194_1⟩ := sqc2 BK235
                            have hnb195 := NB188_172.out
                            have hnc195 := NB172_188.out
                            have hnb196 := NB188_173.out
                            have hnc196 := NB173_188.out
                            have hnb197 := NB188_193.out
                            have hnc197 := NB193_188.out
                            have hnb198 := NB188_198.out
                            have hnc198 := NB198_188.out
                            obtain ⟨hcz199_0, hcz199_1, hfz199_0, hfz199_1⟩ := sqc2 BK188
                            try go_wp2_with (first | ((with_reducible refine gate_callee (f := 19) rfl ?_); refine sqL (some 82) Try.func19 #[.agg #[.int .i64 t231, .slice Ao186 t232.length co186], .agg #[.int .i64 t184, .slice Ao52 t185.length co52]] ?_; (with_reducible refine (laws_eqGaps.calls kj34 t231 _ _ t232 t184 _ _ t185 true _ ?side1 ?side2 ?side3 ?side4 A128.out).mono ?_); (case side1 => refine (Kd.R_reads' (e := 3) (base := w.heap.size) (ok := fun k_ => (some k_ ≠ (v225 : Value).ownBlock ∧ (some k_ ≠ (v229 : Value).ownBlock ∧ (some k_ ≠ (.slice Ao52 t185.length co52 : Value).ownBlock ∧ (some k_ ≠ (.slice Ao62 t216.length co62 : Value).ownBlock ∧ (some k_ ≠ (.slice Ao72 t218.length co72 : Value).ownBlock ∧ some k_ ≠ (.slice Ao82 t200.length co82 : Value).ownBlock)))))) (n := t232.length) (c := co186) ?_).2.2; exact (by (with_reducible repeat (first | apply Kd.R_alloc | apply Kd.R_drewN | apply Kd.R_drew)); exact (Kd.R_mono (Kd.R_far (p := ⟨gb235, 1, none⟩) (Kd.R_far (p := ⟨gb235, 0, none⟩) (Kd.R_types HO234.out BK235.out (by decide)) (fun _ hk => hk.2) (.int .i64 t231)) (fun _ hk => hk.2) (.slice Ao186 t232.length co186)) (fun _ h_ => h_.1)))); (case side2 => exact (Kd.R_reads' HO234.out).2.1); (case side3 => refine (Kd.R_reads' (e := 3) (base := w.heap.size) (ok := fun k_ => (some k_ ≠ (v225 : Value).ownBlock ∧ (some k_ ≠ (v229 : Value).ownBlock ∧ (some k_ ≠ (.slice Ao186 t232.length co186 : Value).ownBlock ∧ (some k_ ≠ (.slice Ao62 t216.length co62 : Value).ownBlock ∧ (some k_ ≠ (.slice Ao72 t218.length co72 : Value).ownBlock ∧ some k_ ≠ (.slice Ao82 t200.length co82 : Value).ownBlock)))))) (n := t185.length) (c := co52) ?_).2.2; exact (by (with_reducible repeat (first | apply Kd.R_alloc | apply Kd.R_drewN | apply Kd.R_drew)); exact (Kd.R_mono (Kd.R_far (p := ⟨gb235, 1, none⟩) (Kd.R_far (p := ⟨gb235, 0, none⟩) (Kd.R_types HO_189001.out BK235.out (by decide)) (fun _ hk => hk.2) (.int .i64 t231)) (fun _ hk => hk.2) (.slice Ao186 t232.length co186)) (fun _ h_ => h_.1)))); (case side4 => exact (Kd.R_reads' HO_189001.out).2.1); rintro e w200 ⟨rfl, hb⟩; refine ⟨_, rfl, ?_⟩; have n0_ := Aside0.mk (Kd.R_below (by (with_reducible repeat (first | apply Kd.R_alloc | apply Kd.R_drewN | apply Kd.R_drew)); exact (Kd.R_mono (Kd.R_far (p := ⟨gb235, 1, none⟩) (Kd.R_far (p := ⟨gb235, 0, none⟩) (Kd.R_types HO_189001.out BK235.out (by decide)) (fun _ hk => hk.2) (.int .i64 t231)) (fun _ hk => hk.2) (.slice Ao186 t232.length co186)) (fun _ h_ => h_.1))) hb); have n1_ := Aside0.mk (Kd.R_below (by (with_reducible repeat (first | apply Kd.R_alloc | apply Kd.R_drewN | apply Kd.R_drew)); exact (Kd.R_mono (Kd.R_far (p := ⟨gb235, 1, none⟩) (Kd.R_far (p := ⟨gb235, 0, none⟩) (Kd.R_types HO_194001.out BK235.out (by decide)) (fun _ hk => hk.2) (.int .i64 t231)) (fun _ hk => hk.2) (.slice Ao186 t232.length co186)) (fun _ h_ => h_.1))) hb); have n2_ := Aside0.mk (Kd.R_below (by (with_reducible repeat (first | apply Kd.R_alloc | apply Kd.R_drewN | apply Kd.R_drew)); exact (Kd.R_mono (Kd.R_far (p := ⟨gb235, 1, none⟩) (Kd.R_far (p := ⟨gb235, 0, none⟩) (Kd.R_types HO_199001.out BK235.out (by decide)) (fun _ hk => hk.2) (.int .i64 t231)) (fun _ hk => hk.2) (.slice Ao186 t232.length co186)) (fun _ h_ => h_.1))) hb); have n3_ := Aside0.mk (Kd.R_below (by (with_reducible repeat (first | apply Kd.R_alloc | apply Kd.R_drewN | apply Kd.R_drew)); exact (Kd.R_mono (Kd.R_far (p := ⟨gb235, 1, none⟩) (Kd.R_far (p := ⟨gb235, 0, none⟩) (Kd.R_types HO_204001.out BK235.out (by decide)) (fun _ hk => hk.2) (.int .i64 t231)) (fun _ hk => hk.2) (.slice Ao186 t232.length co186)) (fun _ h_ => h_.1))) hb); have n4_ := Aside0.mk (Kd.R_below (by (with_reducible repeat (first | apply Kd.R_alloc | apply Kd.R_drewN | apply Kd.R_drew)); exact (Kd.R_mono (Kd.R_far (p := ⟨gb235, 1, none⟩) (Kd.R_far (p := ⟨gb235, 0, none⟩) (Kd.R_types HO226.out BK235.out (by decide)) (fun _ hk => hk.2) (.int .i64 t231)) (fun _ hk => hk.2) (.slice Ao186 t232.length co186)) (fun _ h_ => h_.1))) hb); have n5_ := Aside0.mk (Kd.R_below (by (with_reducible repeat (first | apply Kd.R_alloc | apply Kd.R_drewN | apply Kd.R_drew)); exact (Kd.R_mono (Kd.R_far (p := ⟨gb235, 1, none⟩) (Kd.R_far (p := ⟨gb235, 0, none⟩) (Kd.R_types HO230.out BK235.out (by decide)) (fun _ hk => hk.2) (.int .i64 t231)) (fun _ hk => hk.2) (.slice Ao186 t232.length co186)) (fun _ h_ => h_.1))) hb); have n6_ := Aside0.mk (Kd.R_below (by (with_reducible repeat (first | apply Kd.R_alloc | apply Kd.R_drewN | apply Kd.R_drew)); exact (Kd.R_mono (Kd.R_far (p := ⟨gb235, 1, none⟩) (Kd.R_far (p := ⟨gb235, 0, none⟩) (Kd.R_types HO234.out BK235.out (by decide)) (fun _ hk => hk.2) (.int .i64 t231)) (fun _ hk => hk.2) (.slice Ao186 t232.length co186)) (fun _ h_ => h_.1))) hb); have n7_ := Aside0.mk (blk_below (g := gb172) (o := .cells #[.int .i64 a0_0, .slice A0_1 l0_1.length c0_1] 24 (0, 0)) (by refine sqt ?_; refine blk_far ?_ NB172_235.out _; refine sqt ?_; refine blk_far ?_ NB172_235.out _; refine sqt ?_; exact BK172.out) hb); have n8_ := Aside0.mk (blk_below (g := gb173) (o := .cells #[.int .i64 a1_0, .slice A1_1 l1_1.length c1_1] 24 (0, 0)) (by refine sqt ?_; refine blk_far ?_ NB173_235.out _; refine sqt ?_; refine blk_far ?_ NB173_235.out _; refine sqt ?_; exact BK173.out) hb); have n9_ := Aside0.mk (blk_below (g := gb188) (o := .cells #[.int .i64 t184, .slice Ao52 t185.length co52] 29 (0, 0)) (by refine sqt ?_; refine blk_far ?_ NB188_235.out _; refine sqt ?_; refine blk_far ?_ NB188_235.out _; refine sqt ?_; exact BK188.out) hb); have n10_ := Aside0.mk (blk_below (g := gb193) (o := .cells #[.int .i64 t189, .slice Ao62 t216.length co62] 29 (0, 0)) (by refine sqt ?_; refine blk_far ?_ NB193_235.out _; refine sqt ?_; refine blk_far ?_ NB193_235.out _; refine sqt ?_; exact BK193.out) hb); have n11_ := Aside0.mk (blk_below (g := gb198) (o := .cells #[.int .i64 t194, .slice Ao72 t218.length co72] 29 (0, 0)) (by refine sqt ?_; refine blk_far ?_ NB198_235.out _; refine sqt ?_; refine blk_far ?_ NB198_235.out _; refine sqt ?_; exact BK198.out) hb); have n12_ := Aside0.mk (blk_below (g := gb203) (o := .cells #[.int .i64 t199, .slice Ao82 t200.length co82] 29 (0, 0)) (by refine sqt ?_; refine blk_far ?_ NB203_235.out _; refine sqt ?_; refine blk_far ?_ NB203_235.out _; refine sqt ?_; exact BK203.out) hb); have n13_ := Aside0.mk (blk_below (g := gb235) (o := .cells #[.int .i64 t231, .slice Ao186 t232.length co186] 29 (0, 0)) (by refine sqt ?_; refine blk_put (cs := #[.int .i64 t231, .slice none 0 0]) ?_ 1 _ rfl; refine sqt ?_; refine blk_put (cs := #[.int .i64 0, .slice none 0 0]) ?_ 0 _ rfl; refine sqt ?_; exact BK235.out) hb); have n14_ := sqs HB hb; clear HO_189001; clear HO_194001; clear HO_199001; clear HO_204001; clear HO226; clear HO230; clear HO234; clear BK172; clear BK173; clear BK188; clear BK193; clear BK198; clear BK203; clear BK235; clear HB; have HO_189001 := n0_; have HO_194001 := n1_; have HO_199001 := n2_; have HO_204001 := n3_; have HO226 := n4_; have HO230 := n5_; have HO234 := n6_; have BK172 := n7_; have BK173 := n8_; have BK188 := n9_; have BK193 := n10_; have BK198 := n11_; have BK203 := n12_; have BK235 := n13_; have HB := n14_; clear n0_ n1_ n2_ n3_ n4_ n5_ n6_ n7_ n8_ n9_ n10_ n11_ n12_ n13_ n14_; (try clear hb); (try clear hb2); (try clear hk); (try clear hi); obtain ⟨hcz201_0, hcz201_1, hfz201_0, hfz201_1⟩ := sqc2 BK203) | ((with_reducible refine gate_callee (f := 23) rfl ?_); refine goesL_ (some 86) rfl rfl Try.func23 (by kernel_rfl) rfl #[.agg #[.int .i64 t199, .slice Ao82 t221.length co82], .int .i64 1] rfl (by (try simp only [List.map_toArray, List.map_cons, List.map_nil]); first | done | (rw [show t221.length = t200.length from (Kd.R_reads' HO_204001.out).1.symm] <;> rfl) | rfl | (simp only [List.length_drop, List.length_take]; rfl)) ?_; (with_reducible refine (laws_heldGaps.calls kj34 t199 _ _ t221 1 t237 _ ?side1 ?side2 A130.out).mono ?_); (case side1 => repeat (first | exact (Kd.R_reads' HO_204001.out).2.2 | (with_reducible refine Kd.C_alloc ?_ _) | (with_reducible refine Kd.C_drewN ?_ _) | (with_reducible refine Kd.C_drew ?_))); (case side2 => rw [show t221.length = t200.length from (Kd.R_reads' HO_204001.out).1.symm]; exact (Kd.R_reads' HO_204001.out).2.1); rintro e w202 ⟨rfl, hb⟩; refine ⟨_, rfl, ?_⟩; have n0_ := Aside0.mk (Kd.R_below (by (with_reducible repeat (first | apply Kd.R_alloc | apply Kd.R_drewN | apply Kd.R_drew)); exact HO_189001.out) hb); have n1_ := Aside0.mk (Kd.R_below (by (with_reducible repeat (first | apply Kd.R_alloc | apply Kd.R_drewN | apply Kd.R_drew)); exact HO_194001.out) hb); have n2_ := Aside0.mk (Kd.R_below (by (with_reducible repeat (first | apply Kd.R_alloc | apply Kd.R_drewN | apply Kd.R_drew)); exact HO_199001.out) hb); have n3_ := Aside0.mk (Kd.R_below (by (with_reducible repeat (first | apply Kd.R_alloc | apply Kd.R_drewN | apply Kd.R_drew)); exact HO_204001.out) hb); have n4_ := Aside0.mk (Kd.R_below (by (with_reducible repeat (first | apply Kd.R_alloc | apply Kd.R_drewN | apply Kd.R_drew)); exact HO226.out) hb); have n5_ := Aside0.mk (Kd.R_below (by (with_reducible repeat (first | apply Kd.R_alloc | apply Kd.R_drewN | apply Kd.R_drew)); exact HO230.out) hb); have n6_ := Aside0.mk (Kd.R_below (by (with_reducible repeat (first | apply Kd.R_alloc | apply Kd.R_drewN | apply Kd.R_drew)); exact HO234.out) hb); have n7_ := sqb BK172 hb; have n8_ := sqb BK173 hb; have n9_ := sqb BK188 hb; have n10_ := sqb BK193 hb; have n11_ := sqb BK198 hb; have n12_ := sqb BK203 hb; have n13_ := sqb BK235 hb; have n14_ := sqs HB hb; clear HO_189001; clear HO_194001; clear HO_199001; clear HO_204001; clear HO226; clear HO230; clear HO234; clear BK172; clear BK173; clear BK188; clear BK193; clear BK198; clear BK203; clear BK235; clear HB; have HO_189001 := n0_; have HO_194001 := n1_; have HO_199001 := n2_; have HO_204001 := n3_; have HO226 := n4_; have HO230 := n5_; have HO234 := n6_; have BK172 := n7_; have BK173 := n8_; have BK188 := n9_; have BK193 := n10_; have BK198 := n11_; have BK203 := n12_; have BK235 := n13_; have HB := n14_; clear n0_ n1_ n2_ n3_ n4_ n5_ n6_ n7_ n8_ n9_ n10_ n11_ n12_ n13_ n14_; (try clear hb)))
                            go_ret
                            exact sqe HB
                          · rw [if_neg c167] at H
                            have c167b0 : (t237 == t220) = false := beq_eq_false_iff_ne.mpr c167
                            have c167b1 : (t237 != t220) = true := bne_iff_ne.mpr c167
                            exact absurd (Option.some.inj H) (by decide)
                      · replace c129 := Bool.eq_false_iff.mpr c129
                        subst c129
                        have H1 : (some false) = some true := by rw [if_neg (show ¬ (false = true) by decide)] at H; exact H
                        clear H
                        have H := H1
                        clear H1
                        exact absurd (Option.some.inj H) (by decide)
                    · rw [if_neg c124] at H
                      have c124b0 : (t222 == t220) = false := beq_eq_false_iff_ne.mpr c124
                      have c124b1 : (t222 != t220) = true := bne_iff_ne.mpr c124
                      exact absurd (Option.some.inj H) (by decide)
          · replace c32 := Bool.eq_false_iff.mpr c32
            subst c32
            have H1 : (some false) = some true := by rw [if_neg (show ¬ (false = true) by decide)] at H; exact H
            clear H
            have H := H1
            clear H1
            exact absurd (Option.some.inj H) (by decide)
        · replace c29 := Bool.eq_false_iff.mpr c29
          subst c29
          have H1 : (some false) = some true := by rw [if_neg (show ¬ (false = true) by decide)] at H; exact H
          clear H
          have H := H1
          clear H1
          exact absurd (Option.some.inj H) (by decide)
      · replace c26 := Bool.eq_false_iff.mpr c26
        subst c26
        have H1 : (some false) = some true := by rw [if_neg (show ¬ (false = true) by decide)] at H; exact H
        clear H
        have H := H1
        clear H1
        exact absurd (Option.some.inj H) (by decide)
end Go.Proofs.Ytmdcgkkkfncieaa.PFnExactGapsWiden
