/- Functions of the program as plain Lean functions, and that calls of them come to what these tell. Conditions: those in each law. -/
import Derived.Test.YtmdcgkkkfncieaaSq
import Derived.Test.YtmdcgkkkfncieaaDFnExactGapsJoin
import Derived.Test.YtmdcgkkkfncieaaQFnExactGapsJoinx0
import Derived.Test.YtmdcgkkkfncieaaQFnExactGapsJoinx1
import Derived.Test.YtmdcgkkkfncieaaQFnExactGapsJoinx2
import Derived.Test.YtmdcgkkkfncieaaQFnExactGapsJoinx4
namespace Go.Proofs.Ytmdcgkkkfncieaa.PFnExactGapsJoin
open Go.RowKit Go.Proofs.Ytmdcgkkkfncieaa.Sq Go.Proofs.YtmdcgkkkfncieaaW.PrintWords Go.Proofs.YtmdcgkkkfncieaaW.PrintLast Go.Proofs.YtmdcgkkkfncieaaW.PrintMore
attribute [local go_sem] max2_int min2_int max_two min_two max_three min_three max_four min_four   -- for this text's walks alone
set_option linter.unusedVariables false
set_option linter.unusedSimpArgs false

/-! ### laws_FnExactGapsJoin: function 5 -/
theorem laws_FnExactGapsJoin.mono_l : ∀ k, (∀ y0 y1 y2 y3 y4 y5 y6 y7 y8, LeO (laws_FnExactGapsJoin.j0 k y0 y1 y2 y3 y4 y5 y6 y7 y8) (laws_FnExactGapsJoin.j0 (k + 1) y0 y1 y2 y3 y4 y5 y6 y7 y8))
  | 0 => fun _ _ _ _ _ _ _ _ _ r h => by simp [laws_FnExactGapsJoin.j0] at h
  | k + 1 => by
    have ih0 := laws_FnExactGapsJoin.mono_l k
    · intro y0 y1 y2 y3 y4 y5 y6 y7 y8
      unfold laws_FnExactGapsJoin.j0
      repeat' first
      | (with_reducible exact ih0 _ _ _ _ _ _ _ _ _)
      | (with_reducible exact impl_GapsJoin.mono _ _ _ _ _)
      | (with_reducible exact laws_eqGaps.mono _ _ _ _ _)
      | (with_reducible exact laws_heldGaps.mono _ _ _ _)
      | (with_reducible exact laws_markGaps.mono _ _ _ _)
      | (with_reducible exact laws_toGaps.mono _ _ _)
      | (with_reducible exact spec_GapsJoin.mono _ _ _ _ _)
      | (with_reducible exact LeO.refl _)
      | (with_reducible exact LeO.none _)
      | (with_reducible refine LeO.ite ?_ ?_)
      | (with_reducible refine LeO.bind ?_ (fun _ => ?_))
      | exact ih0 _ _ _ _ _ _ _ _ _
      | exact impl_GapsJoin.mono _ _ _ _ _
      | exact laws_eqGaps.mono _ _ _ _ _
      | exact laws_heldGaps.mono _ _ _ _
      | exact laws_markGaps.mono _ _ _ _
      | exact laws_toGaps.mono _ _ _
      | exact spec_GapsJoin.mono _ _ _ _ _
      | exact LeO.none _
      | refine LeO.ite ?_ ?_
      | refine LeO.bind ?_ (fun _ => ?_)
theorem laws_FnExactGapsJoin.mono : ∀ a0 a1 a2 a3 k, LeO (laws_FnExactGapsJoin.f k a0 a1 a2 a3) (laws_FnExactGapsJoin.f (k + 1) a0 a1 a2 a3) := by
  intro a0 a1 a2 a3 k
  have ih0 := laws_FnExactGapsJoin.mono_l k
  unfold laws_FnExactGapsJoin.f
  repeat' first
      | (with_reducible exact ih0 _ _ _ _ _ _ _ _ _)
      | (with_reducible exact impl_GapsJoin.mono _ _ _ _ _)
      | (with_reducible exact laws_eqGaps.mono _ _ _ _ _)
      | (with_reducible exact laws_heldGaps.mono _ _ _ _)
      | (with_reducible exact laws_markGaps.mono _ _ _ _)
      | (with_reducible exact laws_toGaps.mono _ _ _)
      | (with_reducible exact spec_GapsJoin.mono _ _ _ _ _)
      | (with_reducible exact LeO.refl _)
      | (with_reducible exact LeO.none _)
      | (with_reducible refine LeO.ite ?_ ?_)
      | (with_reducible refine LeO.bind ?_ (fun _ => ?_))
      | exact ih0 _ _ _ _ _ _ _ _ _
      | exact impl_GapsJoin.mono _ _ _ _ _
      | exact laws_eqGaps.mono _ _ _ _ _
      | exact laws_heldGaps.mono _ _ _ _
      | exact laws_markGaps.mono _ _ _ _
      | exact laws_toGaps.mono _ _ _
      | exact spec_GapsJoin.mono _ _ _ _ _
      | exact LeO.none _
      | refine LeO.ite ?_ ?_
      | refine LeO.bind ?_ (fun _ => ?_)
set_option maxHeartbeats 8000000 in
set_option maxRecDepth 100000 in
theorem laws_FnExactGapsJoin.calls (k : Nat) (a0_0 : Int) (A0_1 : Option Addr) (c0_1 : Nat) (l0_1 : List Int) (a1_0 : Int) (A1_1 : Option Addr) (c1_1 : Nat) (l1_1 : List Int) (r : Bool) (w : World) (hr0_1 : Kd.C (Kd.int .i64) w A0_1 l0_1.length l0_1) (hc0_1 : l0_1.length ≤ c0_1) (hr1_1 : Kd.C (Kd.int .i64) w A1_1 l1_1.length l1_1) (hc1_1 : l1_1.length ≤ c1_1) (h : laws_FnExactGapsJoin.f k a0_0 l0_1 a1_0 l1_1 = some r) (hr_ : r = true := by rfl) :
    Calls Try.prog 5 #[.agg #[.int .i64 a0_0, .slice A0_1 l0_1.length c0_1], .agg #[.int .i64 a1_0, .slice A1_1 l1_1.length c1_1]] w fun e w' => e = .returned (.bool r) ∧ Below w.heap.size w w' := by
  subst hr_
  have hu24 := Try.underlying24
  have hu29 := Try.underlying29
  have HR0_1 := Aside0.mk hr0_1
  have HC0_1 := Aside0.mk hc0_1
  clear hr0_1 hc0_1
  have HR1_1 := Aside0.mk hr1_1
  have HC1_1 := Aside0.mk hc1_1
  clear hr1_1 hc1_1
  have HB := Aside0.mk (Below.refl w.heap.size w)
  have H : ((laws_szGaps.f a0_0 l0_1 1048576).bind fun t172 => (if t172 < 0 then (some true) else ((laws_szGaps.f a1_0 l1_1 t172).bind fun t173 => (if t173 < 0 then (some true) else ((laws_toGaps.f k a0_0 l0_1).bind fun bt174 => ((laws_toGaps.f k a1_0 l1_1).bind fun bt178 => ((spec_GapsJoin.f k bt174.1 bt174.2 bt178.1 bt178.2).bind fun bt182 => ((laws_toGaps.f k a0_0 l0_1).bind fun bt187 => ((laws_toGaps.f k a1_0 l1_1).bind fun bt192 => ((impl_GapsJoin.f k bt187.1 bt187.2 bt192.1 bt192.2).bind fun bt197 => ((laws_eqGaps.f k bt197.1 bt197.2 bt182.1 bt182.2).bind fun t202 => (if t202 = true then ((laws_toGaps.f k a0_0 l0_1).bind fun bt203 => ((laws_eqGaps.f k bt187.1 bt187.2 bt203.1 bt203.2).bind fun t207 => (if t207 = true then ((laws_toGaps.f k a1_0 l1_1).bind fun bt208 => ((laws_eqGaps.f k bt192.1 bt192.2 bt208.1 bt208.2).bind fun t212 => (if t212 = true then ((laws_markGaps.f k bt187.1 bt187.2 1).bind fun bt213 => ((laws_markGaps.f k bt192.1 bt192.2 bt213.1).bind fun bt215 => (if bt215.1 < 0 then (laws_FnExactGapsJoin.j0 k true a0_0 l0_1 a1_0 l1_1 bt182.1 bt182.2 bt197.1 bt197.2) else ((laws_eqGaps.f k bt197.1 bt197.2 bt182.1 bt182.2).bind fun t217 => (laws_FnExactGapsJoin.j0 k (!t217) a0_0 l0_1 a1_0 l1_1 bt182.1 bt182.2 bt197.1 bt197.2))))) else (some false)))) else (some false)))) else (some false))))))))))))) = some true := h
  clear h
  replace H := Option.bind_eq_some_iff.mp H
  obtain ⟨t172, A30, H⟩ := H
  replace H : (if t172 < 0 then (some true) else ((laws_szGaps.f a1_0 l1_1 t172).bind fun t173 => (if t173 < 0 then (some true) else ((laws_toGaps.f k a0_0 l0_1).bind fun bt174 => ((laws_toGaps.f k a1_0 l1_1).bind fun bt178 => ((spec_GapsJoin.f k bt174.1 bt174.2 bt178.1 bt178.2).bind fun bt182 => ((laws_toGaps.f k a0_0 l0_1).bind fun bt187 => ((laws_toGaps.f k a1_0 l1_1).bind fun bt192 => ((impl_GapsJoin.f k bt187.1 bt187.2 bt192.1 bt192.2).bind fun bt197 => ((laws_eqGaps.f k bt197.1 bt197.2 bt182.1 bt182.2).bind fun t202 => (if t202 = true then ((laws_toGaps.f k a0_0 l0_1).bind fun bt203 => ((laws_eqGaps.f k bt187.1 bt187.2 bt203.1 bt203.2).bind fun t207 => (if t207 = true then ((laws_toGaps.f k a1_0 l1_1).bind fun bt208 => ((laws_eqGaps.f k bt192.1 bt192.2 bt208.1 bt208.2).bind fun t212 => (if t212 = true then ((laws_markGaps.f k bt187.1 bt187.2 1).bind fun bt213 => ((laws_markGaps.f k bt192.1 bt192.2 bt213.1).bind fun bt215 => (if bt215.1 < 0 then (laws_FnExactGapsJoin.j0 k true a0_0 l0_1 a1_0 l1_1 bt182.1 bt182.2 bt197.1 bt197.2) else ((laws_eqGaps.f k bt197.1 bt197.2 bt182.1 bt182.2).bind fun t217 => (laws_FnExactGapsJoin.j0 k (!t217) a0_0 l0_1 a1_0 l1_1 bt182.1 bt182.2 bt197.1 bt197.2))))) else (some false)))) else (some false)))) else (some false)))))))))))) = some true := H
  have A3 := Aside0.mk A30
  clear A30
  by_cases c4 : t172 < 0
  · rw [if_pos c4] at H
    have c4b0 : decide (t172 < 0) = true := decide_eq_true c4
    clear c4
    clear H
    go_enter Try.func5, Try.ntmps5
    go_wp2_with (first | ((with_reducible refine gate_dst (N := 2) rfl ?_); refine sqx 2 #[.int .i64 a0_0, .slice A0_1 l0_1.length c0_1] 24 ?_; intro gb170 hg w5 hbox hb; have BK170 := Aside0.mk (hbox); have GW170 := sqg HB hg; have GE170 := sqg HB hg; replace HB := sqs HB hb; clear hb hbox hg) | ((with_reducible refine gate_dst (N := 3) rfl ?_); refine sqx 3 #[.int .i64 a1_0, .slice A1_1 l1_1.length c1_1] 24 ?_; intro gb171 hg w6 hbox hb; have BK171 := Aside0.mk (hbox); have GW171 := sqg HB hg; have GE171 := sqg HB hg; have NB170_171 := sqn BK170 hg; have NB171_170 := sqm BK170 hg; replace BK170 := sqb BK170 hb; replace HB := sqs HB hb; clear hb hbox hg; have hnb7 := NB170_171.out; have hnc7 := NB171_170.out; obtain ⟨hcz8_0, hcz8_1, hfz8_0, hfz8_1⟩ := sqc2 BK170) | ((with_reducible refine gate_callee (f := 14) rfl ?_); refine sqL (some 16) Try.func14 #[.agg #[.int .i64 a0_0, .slice A0_1 l0_1.length c0_1], .int .i64 1048576] ?_; (with_reducible refine (laws_szGaps.calls a0_0 _ _ l0_1 1048576 t172 _ ?side1 ?side2 A3.out).mono ?_); (case side1 => repeat (first | exact (Kd.C_below HR0_1.out HB.out) | (with_reducible refine Kd.C_alloc ?_ _) | (with_reducible refine Kd.C_drewN ?_ _) | (with_reducible refine Kd.C_drew ?_))); (case side2 => exact HC0_1.out); rintro e w9 ⟨rfl, hb⟩; refine ⟨_, rfl, ?_⟩; replace BK170 := sqb BK170 hb; replace BK171 := sqb BK171 hb; replace HB := sqs HB hb; (try clear hb)))
    go_ret
    exact sqe HB
  · rw [if_neg c4] at H
    have c4b0 : decide (t172 < 0) = false := decide_eq_false c4
    clear c4
    replace H := Option.bind_eq_some_iff.mp H
    obtain ⟨t173, A100, H⟩ := H
    replace H : (if t173 < 0 then (some true) else ((laws_toGaps.f k a0_0 l0_1).bind fun bt174 => ((laws_toGaps.f k a1_0 l1_1).bind fun bt178 => ((spec_GapsJoin.f k bt174.1 bt174.2 bt178.1 bt178.2).bind fun bt182 => ((laws_toGaps.f k a0_0 l0_1).bind fun bt187 => ((laws_toGaps.f k a1_0 l1_1).bind fun bt192 => ((impl_GapsJoin.f k bt187.1 bt187.2 bt192.1 bt192.2).bind fun bt197 => ((laws_eqGaps.f k bt197.1 bt197.2 bt182.1 bt182.2).bind fun t202 => (if t202 = true then ((laws_toGaps.f k a0_0 l0_1).bind fun bt203 => ((laws_eqGaps.f k bt187.1 bt187.2 bt203.1 bt203.2).bind fun t207 => (if t207 = true then ((laws_toGaps.f k a1_0 l1_1).bind fun bt208 => ((laws_eqGaps.f k bt192.1 bt192.2 bt208.1 bt208.2).bind fun t212 => (if t212 = true then ((laws_markGaps.f k bt187.1 bt187.2 1).bind fun bt213 => ((laws_markGaps.f k bt192.1 bt192.2 bt213.1).bind fun bt215 => (if bt215.1 < 0 then (laws_FnExactGapsJoin.j0 k true a0_0 l0_1 a1_0 l1_1 bt182.1 bt182.2 bt197.1 bt197.2) else ((laws_eqGaps.f k bt197.1 bt197.2 bt182.1 bt182.2).bind fun t217 => (laws_FnExactGapsJoin.j0 k (!t217) a0_0 l0_1 a1_0 l1_1 bt182.1 bt182.2 bt197.1 bt197.2))))) else (some false)))) else (some false)))) else (some false)))))))))) = some true := H
    have A10 := Aside0.mk A100
    clear A100
    by_cases c11 : t173 < 0
    · rw [if_pos c11] at H
      have c11b0 : decide (t173 < 0) = true := decide_eq_true c11
      clear c11
      clear H
      go_enter Try.func5, Try.ntmps5
      go_wp2_with (first | ((with_reducible refine gate_dst (N := 2) rfl ?_); refine sqx 2 #[.int .i64 a0_0, .slice A0_1 l0_1.length c0_1] 24 ?_; intro gb170 hg w12 hbox hb; have BK170 := Aside0.mk (hbox); have GW170 := sqg HB hg; have GE170 := sqg HB hg; replace HB := sqs HB hb; clear hb hbox hg) | ((with_reducible refine gate_dst (N := 3) rfl ?_); refine sqx 3 #[.int .i64 a1_0, .slice A1_1 l1_1.length c1_1] 24 ?_; intro gb171 hg w13 hbox hb; have BK171 := Aside0.mk (hbox); have GW171 := sqg HB hg; have GE171 := sqg HB hg; have NB170_171 := sqn BK170 hg; have NB171_170 := sqm BK170 hg; replace BK170 := sqb BK170 hb; replace HB := sqs HB hb; clear hb hbox hg; have hnb14 := NB170_171.out; have hnc14 := NB171_170.out; obtain ⟨hcz15_0, hcz15_1, hfz15_0, hfz15_1⟩ := sqc2 BK170) | ((with_reducible refine gate_callee (f := 14) rfl ?_); refine sqL (some 16) Try.func14 #[.agg #[.int .i64 a0_0, .slice A0_1 l0_1.length c0_1], .int .i64 1048576] ?_; (with_reducible refine (laws_szGaps.calls a0_0 _ _ l0_1 1048576 t172 _ ?side1 ?side2 A3.out).mono ?_); (case side1 => repeat (first | exact (Kd.C_below HR0_1.out HB.out) | (with_reducible refine Kd.C_alloc ?_ _) | (with_reducible refine Kd.C_drewN ?_ _) | (with_reducible refine Kd.C_drew ?_))); (case side2 => exact HC0_1.out); rintro e w16 ⟨rfl, hb⟩; refine ⟨_, rfl, ?_⟩; replace BK170 := sqb BK170 hb; replace BK171 := sqb BK171 hb; replace HB := sqs HB hb; (try clear hb); obtain ⟨hcz17_0, hcz17_1, hfz17_0, hfz17_1⟩ := sqc2 BK171) | ((with_reducible refine gate_callee (f := 14) rfl ?_); refine sqL (some 21) Try.func14 #[.agg #[.int .i64 a1_0, .slice A1_1 l1_1.length c1_1], .int .i64 t172] ?_; (with_reducible refine (laws_szGaps.calls a1_0 _ _ l1_1 t172 t173 _ ?side1 ?side2 A10.out).mono ?_); (case side1 => repeat (first | exact (Kd.C_below HR1_1.out HB.out) | (with_reducible refine Kd.C_alloc ?_ _) | (with_reducible refine Kd.C_drewN ?_ _) | (with_reducible refine Kd.C_drew ?_))); (case side2 => exact HC1_1.out); rintro e w18 ⟨rfl, hb⟩; refine ⟨_, rfl, ?_⟩; replace BK170 := sqb BK170 hb; replace BK171 := sqb BK171 hb; replace HB := sqs HB hb; (try clear hb)))
      go_ret
      exact sqe HB
    · rw [if_neg c11] at H
      have c11b0 : decide (t173 < 0) = false := decide_eq_false c11
      clear c11
      replace H := Option.bind_eq_some_iff.mp H
      obtain ⟨⟨t174, t175⟩, A190, H⟩ := H
      replace H : ((laws_toGaps.f k a1_0 l1_1).bind fun bt178 => ((spec_GapsJoin.f k t174 t175 bt178.1 bt178.2).bind fun bt182 => ((laws_toGaps.f k a0_0 l0_1).bind fun bt187 => ((laws_toGaps.f k a1_0 l1_1).bind fun bt192 => ((impl_GapsJoin.f k bt187.1 bt187.2 bt192.1 bt192.2).bind fun bt197 => ((laws_eqGaps.f k bt197.1 bt197.2 bt182.1 bt182.2).bind fun t202 => (if t202 = true then ((laws_toGaps.f k a0_0 l0_1).bind fun bt203 => ((laws_eqGaps.f k bt187.1 bt187.2 bt203.1 bt203.2).bind fun t207 => (if t207 = true then ((laws_toGaps.f k a1_0 l1_1).bind fun bt208 => ((laws_eqGaps.f k bt192.1 bt192.2 bt208.1 bt208.2).bind fun t212 => (if t212 = true then ((laws_markGaps.f k bt187.1 bt187.2 1).bind fun bt213 => ((laws_markGaps.f k bt192.1 bt192.2 bt213.1).bind fun bt215 => (if bt215.1 < 0 then (laws_FnExactGapsJoin.j0 k true a0_0 l0_1 a1_0 l1_1 bt182.1 bt182.2 bt197.1 bt197.2) else ((laws_eqGaps.f k bt197.1 bt197.2 bt182.1 bt182.2).bind fun t217 => (laws_FnExactGapsJoin.j0 k (!t217) a0_0 l0_1 a1_0 l1_1 bt182.1 bt182.2 bt197.1 bt197.2))))) else (some false)))) else (some false)))) else (some false)))))))) = some true := H
      have A19 := Aside0.mk A190
      clear A190
      replace H := Option.bind_eq_some_iff.mp H
      obtain ⟨⟨t178, t179⟩, A200, H⟩ := H
      replace H : ((spec_GapsJoin.f k t174 t175 t178 t179).bind fun bt182 => ((laws_toGaps.f k a0_0 l0_1).bind fun bt187 => ((laws_toGaps.f k a1_0 l1_1).bind fun bt192 => ((impl_GapsJoin.f k bt187.1 bt187.2 bt192.1 bt192.2).bind fun bt197 => ((laws_eqGaps.f k bt197.1 bt197.2 bt182.1 bt182.2).bind fun t202 => (if t202 = true then ((laws_toGaps.f k a0_0 l0_1).bind fun bt203 => ((laws_eqGaps.f k bt187.1 bt187.2 bt203.1 bt203.2).bind fun t207 => (if t207 = true then ((laws_toGaps.f k a1_0 l1_1).bind fun bt208 => ((laws_eqGaps.f k bt192.1 bt192.2 bt208.1 bt208.2).bind fun t212 => (if t212 = true then ((laws_markGaps.f k bt187.1 bt187.2 1).bind fun bt213 => ((laws_markGaps.f k bt192.1 bt192.2 bt213.1).bind fun bt215 => (if bt215.1 < 0 then (laws_FnExactGapsJoin.j0 k true a0_0 l0_1 a1_0 l1_1 bt182.1 bt182.2 bt197.1 bt197.2) else ((laws_eqGaps.f k bt197.1 bt197.2 bt182.1 bt182.2).bind fun t217 => (laws_FnExactGapsJoin.j0 k (!t217) a0_0 l0_1 a1_0 l1_1 bt182.1 bt182.2 bt197.1 bt197.2))))) else (some false)))) else (some false)))) else (some false))))))) = some true := H
      have A20 := Aside0.mk A200
      clear A200
      replace H := Option.bind_eq_some_iff.mp H
      obtain ⟨⟨t182, t183⟩, A210, H⟩ := H
      replace H : ((laws_toGaps.f k a0_0 l0_1).bind fun bt187 => ((laws_toGaps.f k a1_0 l1_1).bind fun bt192 => ((impl_GapsJoin.f k bt187.1 bt187.2 bt192.1 bt192.2).bind fun bt197 => ((laws_eqGaps.f k bt197.1 bt197.2 t182 t183).bind fun t202 => (if t202 = true then ((laws_toGaps.f k a0_0 l0_1).bind fun bt203 => ((laws_eqGaps.f k bt187.1 bt187.2 bt203.1 bt203.2).bind fun t207 => (if t207 = true then ((laws_toGaps.f k a1_0 l1_1).bind fun bt208 => ((laws_eqGaps.f k bt192.1 bt192.2 bt208.1 bt208.2).bind fun t212 => (if t212 = true then ((laws_markGaps.f k bt187.1 bt187.2 1).bind fun bt213 => ((laws_markGaps.f k bt192.1 bt192.2 bt213.1).bind fun bt215 => (if bt215.1 < 0 then (laws_FnExactGapsJoin.j0 k true a0_0 l0_1 a1_0 l1_1 t182 t183 bt197.1 bt197.2) else ((laws_eqGaps.f k bt197.1 bt197.2 t182 t183).bind fun t217 => (laws_FnExactGapsJoin.j0 k (!t217) a0_0 l0_1 a1_0 l1_1 t182 t183 bt197.1 bt197.2))))) else (some false)))) else (some false)))) else (some false)))))) = some true := H
      have A21 := Aside0.mk A210
      clear A210
      replace H := Option.bind_eq_some_iff.mp H
      obtain ⟨⟨t187, t188⟩, A220, H⟩ := H
      replace H : ((laws_toGaps.f k a1_0 l1_1).bind fun bt192 => ((impl_GapsJoin.f k t187 t188 bt192.1 bt192.2).bind fun bt197 => ((laws_eqGaps.f k bt197.1 bt197.2 t182 t183).bind fun t202 => (if t202 = true then ((laws_toGaps.f k a0_0 l0_1).bind fun bt203 => ((laws_eqGaps.f k t187 t188 bt203.1 bt203.2).bind fun t207 => (if t207 = true then ((laws_toGaps.f k a1_0 l1_1).bind fun bt208 => ((laws_eqGaps.f k bt192.1 bt192.2 bt208.1 bt208.2).bind fun t212 => (if t212 = true then ((laws_markGaps.f k t187 t188 1).bind fun bt213 => ((laws_markGaps.f k bt192.1 bt192.2 bt213.1).bind fun bt215 => (if bt215.1 < 0 then (laws_FnExactGapsJoin.j0 k true a0_0 l0_1 a1_0 l1_1 t182 t183 bt197.1 bt197.2) else ((laws_eqGaps.f k bt197.1 bt197.2 t182 t183).bind fun t217 => (laws_FnExactGapsJoin.j0 k (!t217) a0_0 l0_1 a1_0 l1_1 t182 t183 bt197.1 bt197.2))))) else (some false)))) else (some false)))) else (some false))))) = some true := H
      have A22 := Aside0.mk A220
      clear A220
      replace H := Option.bind_eq_some_iff.mp H
      obtain ⟨⟨t192, t193⟩, A230, H⟩ := H
      replace H : ((impl_GapsJoin.f k t187 t188 t192 t193).bind fun bt197 => ((laws_eqGaps.f k bt197.1 bt197.2 t182 t183).bind fun t202 => (if t202 = true then ((laws_toGaps.f k a0_0 l0_1).bind fun bt203 => ((laws_eqGaps.f k t187 t188 bt203.1 bt203.2).bind fun t207 => (if t207 = true then ((laws_toGaps.f k a1_0 l1_1).bind fun bt208 => ((laws_eqGaps.f k t192 t193 bt208.1 bt208.2).bind fun t212 => (if t212 = true then ((laws_markGaps.f k t187 t188 1).bind fun bt213 => ((laws_markGaps.f k t192 t193 bt213.1).bind fun bt215 => (if bt215.1 < 0 then (laws_FnExactGapsJoin.j0 k true a0_0 l0_1 a1_0 l1_1 t182 t183 bt197.1 bt197.2) else ((laws_eqGaps.f k bt197.1 bt197.2 t182 t183).bind fun t217 => (laws_FnExactGapsJoin.j0 k (!t217) a0_0 l0_1 a1_0 l1_1 t182 t183 bt197.1 bt197.2))))) else (some false)))) else (some false)))) else (some false)))) = some true := H
      have A23 := Aside0.mk A230
      clear A230
      replace H := Option.bind_eq_some_iff.mp H
      obtain ⟨⟨t197, t198⟩, A240, H⟩ := H
      replace H : ((laws_eqGaps.f k t197 t198 t182 t183).bind fun t202 => (if t202 = true then ((laws_toGaps.f k a0_0 l0_1).bind fun bt203 => ((laws_eqGaps.f k t187 t188 bt203.1 bt203.2).bind fun t207 => (if t207 = true then ((laws_toGaps.f k a1_0 l1_1).bind fun bt208 => ((laws_eqGaps.f k t192 t193 bt208.1 bt208.2).bind fun t212 => (if t212 = true then ((laws_markGaps.f k t187 t188 1).bind fun bt213 => ((laws_markGaps.f k t192 t193 bt213.1).bind fun bt215 => (if bt215.1 < 0 then (laws_FnExactGapsJoin.j0 k true a0_0 l0_1 a1_0 l1_1 t182 t183 t197 t198) else ((laws_eqGaps.f k t197 t198 t182 t183).bind fun t217 => (laws_FnExactGapsJoin.j0 k (!t217) a0_0 l0_1 a1_0 l1_1 t182 t183 t197 t198))))) else (some false)))) else (some false)))) else (some false))) = some true := H
      have A24 := Aside0.mk A240
      clear A240
      replace H := Option.bind_eq_some_iff.mp H
      obtain ⟨t202, A250, H⟩ := H
      replace H : (if t202 = true then ((laws_toGaps.f k a0_0 l0_1).bind fun bt203 => ((laws_eqGaps.f k t187 t188 bt203.1 bt203.2).bind fun t207 => (if t207 = true then ((laws_toGaps.f k a1_0 l1_1).bind fun bt208 => ((laws_eqGaps.f k t192 t193 bt208.1 bt208.2).bind fun t212 => (if t212 = true then ((laws_markGaps.f k t187 t188 1).bind fun bt213 => ((laws_markGaps.f k t192 t193 bt213.1).bind fun bt215 => (if bt215.1 < 0 then (laws_FnExactGapsJoin.j0 k true a0_0 l0_1 a1_0 l1_1 t182 t183 t197 t198) else ((laws_eqGaps.f k t197 t198 t182 t183).bind fun t217 => (laws_FnExactGapsJoin.j0 k (!t217) a0_0 l0_1 a1_0 l1_1 t182 t183 t197 t198))))) else (some false)))) else (some false)))) else (some false)) = some true := H
      have A25 := Aside0.mk A250
      clear A250
      by_cases c26 : t202 = true
      · subst c26
        have H1 : ((laws_toGaps.f k a0_0 l0_1).bind fun bt203 => ((laws_eqGaps.f k t187 t188 bt203.1 bt203.2).bind fun t207 => (if t207 = true then ((laws_toGaps.f k a1_0 l1_1).bind fun bt208 => ((laws_eqGaps.f k t192 t193 bt208.1 bt208.2).bind fun t212 => (if t212 = true then ((laws_markGaps.f k t187 t188 1).bind fun bt213 => ((laws_markGaps.f k t192 t193 bt213.1).bind fun bt215 => (if bt215.1 < 0 then (laws_FnExactGapsJoin.j0 k true a0_0 l0_1 a1_0 l1_1 t182 t183 t197 t198) else ((laws_eqGaps.f k t197 t198 t182 t183).bind fun t217 => (laws_FnExactGapsJoin.j0 k (!t217) a0_0 l0_1 a1_0 l1_1 t182 t183 t197 t198))))) else (some false)))) else (some false)))) = some true := by rw [if_pos rfl] at H; exact H
        clear H
        have H := H1
        clear H1
        replace H := Option.bind_eq_some_iff.mp H
        obtain ⟨⟨t203, t204⟩, A270, H⟩ := H
        replace H : ((laws_eqGaps.f k t187 t188 t203 t204).bind fun t207 => (if t207 = true then ((laws_toGaps.f k a1_0 l1_1).bind fun bt208 => ((laws_eqGaps.f k t192 t193 bt208.1 bt208.2).bind fun t212 => (if t212 = true then ((laws_markGaps.f k t187 t188 1).bind fun bt213 => ((laws_markGaps.f k t192 t193 bt213.1).bind fun bt215 => (if bt215.1 < 0 then (laws_FnExactGapsJoin.j0 k true a0_0 l0_1 a1_0 l1_1 t182 t183 t197 t198) else ((laws_eqGaps.f k t197 t198 t182 t183).bind fun t217 => (laws_FnExactGapsJoin.j0 k (!t217) a0_0 l0_1 a1_0 l1_1 t182 t183 t197 t198))))) else (some false)))) else (some false))) = some true := H
        have A27 := Aside0.mk A270
        clear A270
        replace H := Option.bind_eq_some_iff.mp H
        obtain ⟨t207, A280, H⟩ := H
        replace H : (if t207 = true then ((laws_toGaps.f k a1_0 l1_1).bind fun bt208 => ((laws_eqGaps.f k t192 t193 bt208.1 bt208.2).bind fun t212 => (if t212 = true then ((laws_markGaps.f k t187 t188 1).bind fun bt213 => ((laws_markGaps.f k t192 t193 bt213.1).bind fun bt215 => (if bt215.1 < 0 then (laws_FnExactGapsJoin.j0 k true a0_0 l0_1 a1_0 l1_1 t182 t183 t197 t198) else ((laws_eqGaps.f k t197 t198 t182 t183).bind fun t217 => (laws_FnExactGapsJoin.j0 k (!t217) a0_0 l0_1 a1_0 l1_1 t182 t183 t197 t198))))) else (some false)))) else (some false)) = some true := H
        have A28 := Aside0.mk A280
        clear A280
        by_cases c29 : t207 = true
        · subst c29
          have H1 : ((laws_toGaps.f k a1_0 l1_1).bind fun bt208 => ((laws_eqGaps.f k t192 t193 bt208.1 bt208.2).bind fun t212 => (if t212 = true then ((laws_markGaps.f k t187 t188 1).bind fun bt213 => ((laws_markGaps.f k t192 t193 bt213.1).bind fun bt215 => (if bt215.1 < 0 then (laws_FnExactGapsJoin.j0 k true a0_0 l0_1 a1_0 l1_1 t182 t183 t197 t198) else ((laws_eqGaps.f k t197 t198 t182 t183).bind fun t217 => (laws_FnExactGapsJoin.j0 k (!t217) a0_0 l0_1 a1_0 l1_1 t182 t183 t197 t198))))) else (some false)))) = some true := by rw [if_pos rfl] at H; exact H
          clear H
          have H := H1
          clear H1
          replace H := Option.bind_eq_some_iff.mp H
          obtain ⟨⟨t208, t209⟩, A300, H⟩ := H
          replace H : ((laws_eqGaps.f k t192 t193 t208 t209).bind fun t212 => (if t212 = true then ((laws_markGaps.f k t187 t188 1).bind fun bt213 => ((laws_markGaps.f k t192 t193 bt213.1).bind fun bt215 => (if bt215.1 < 0 then (laws_FnExactGapsJoin.j0 k true a0_0 l0_1 a1_0 l1_1 t182 t183 t197 t198) else ((laws_eqGaps.f k t197 t198 t182 t183).bind fun t217 => (laws_FnExactGapsJoin.j0 k (!t217) a0_0 l0_1 a1_0 l1_1 t182 t183 t197 t198))))) else (some false))) = some true := H
          have A30 := Aside0.mk A300
          clear A300
          replace H := Option.bind_eq_some_iff.mp H
          obtain ⟨t212, A310, H⟩ := H
          replace H : (if t212 = true then ((laws_markGaps.f k t187 t188 1).bind fun bt213 => ((laws_markGaps.f k t192 t193 bt213.1).bind fun bt215 => (if bt215.1 < 0 then (laws_FnExactGapsJoin.j0 k true a0_0 l0_1 a1_0 l1_1 t182 t183 t197 t198) else ((laws_eqGaps.f k t197 t198 t182 t183).bind fun t217 => (laws_FnExactGapsJoin.j0 k (!t217) a0_0 l0_1 a1_0 l1_1 t182 t183 t197 t198))))) else (some false)) = some true := H
          have A31 := Aside0.mk A310
          clear A310
          by_cases c32 : t212 = true
          · subst c32
            have H1 : ((laws_markGaps.f k t187 t188 1).bind fun bt213 => ((laws_markGaps.f k t192 t193 bt213.1).bind fun bt215 => (if bt215.1 < 0 then (laws_FnExactGapsJoin.j0 k true a0_0 l0_1 a1_0 l1_1 t182 t183 t197 t198) else ((laws_eqGaps.f k t197 t198 t182 t183).bind fun t217 => (laws_FnExactGapsJoin.j0 k (!t217) a0_0 l0_1 a1_0 l1_1 t182 t183 t197 t198))))) = some true := by rw [if_pos rfl] at H; exact H
            clear H
            have H := H1
            clear H1
            replace H := Option.bind_eq_some_iff.mp H
            obtain ⟨⟨t213, t214⟩, A330, H⟩ := H
            replace H : ((laws_markGaps.f k t192 t193 t213).bind fun bt215 => (if bt215.1 < 0 then (laws_FnExactGapsJoin.j0 k true a0_0 l0_1 a1_0 l1_1 t182 t183 t197 t198) else ((laws_eqGaps.f k t197 t198 t182 t183).bind fun t217 => (laws_FnExactGapsJoin.j0 k (!t217) a0_0 l0_1 a1_0 l1_1 t182 t183 t197 t198)))) = some true := H
            have A33 := Aside0.mk A330
            clear A330
            replace H := Option.bind_eq_some_iff.mp H
            obtain ⟨⟨t215, t216⟩, A340, H⟩ := H
            replace H : (if t215 < 0 then (laws_FnExactGapsJoin.j0 k true a0_0 l0_1 a1_0 l1_1 t182 t183 t197 t198) else ((laws_eqGaps.f k t197 t198 t182 t183).bind fun t217 => (laws_FnExactGapsJoin.j0 k (!t217) a0_0 l0_1 a1_0 l1_1 t182 t183 t197 t198))) = some true := H
            have A34 := Aside0.mk A340
            clear A340
            have HC35 := Aside0.mk H
            clear H
            go_enter Try.func5, Try.ntmps5
            try go_wp2_with (first | ((with_reducible refine gate_dst (N := 2) rfl ?_); refine sqx 2 #[.int .i64 a0_0, .slice A0_1 l0_1.length c0_1] 24 ?_; intro gb170 hg w36 hbox hb; have BK170 := Aside0.mk (hbox); have GW170 := sqg HB hg; have GE170 := sqg HB hg; replace HB := sqs HB hb; clear hb hbox hg) | ((with_reducible refine gate_dst (N := 3) rfl ?_); refine sqx 3 #[.int .i64 a1_0, .slice A1_1 l1_1.length c1_1] 24 ?_; intro gb171 hg w37 hbox hb; have BK171 := Aside0.mk (hbox); have GW171 := sqg HB hg; have GE171 := sqg HB hg; have NB170_171 := sqn BK170 hg; have NB171_170 := sqm BK170 hg; replace BK170 := sqb BK170 hb; replace HB := sqs HB hb; clear hb hbox hg; have hnb38 := NB170_171.out; have hnc38 := NB171_170.out; obtain ⟨hcz39_0, hcz39_1, hfz39_0, hfz39_1⟩ := sqc2 BK170) | ((with_reducible refine gate_callee (f := 14) rfl ?_); refine sqL (some 16) Try.func14 #[.agg #[.int .i64 a0_0, .slice A0_1 l0_1.length c0_1], .int .i64 1048576] ?_; (with_reducible refine (laws_szGaps.calls a0_0 _ _ l0_1 1048576 t172 _ ?side1 ?side2 A3.out).mono ?_); (case side1 => repeat (first | exact (Kd.C_below HR0_1.out HB.out) | (with_reducible refine Kd.C_alloc ?_ _) | (with_reducible refine Kd.C_drewN ?_ _) | (with_reducible refine Kd.C_drew ?_))); (case side2 => exact HC0_1.out); rintro e w40 ⟨rfl, hb⟩; refine ⟨_, rfl, ?_⟩; replace BK170 := sqb BK170 hb; replace BK171 := sqb BK171 hb; replace HB := sqs HB hb; (try clear hb); obtain ⟨hcz41_0, hcz41_1, hfz41_0, hfz41_1⟩ := sqc2 BK171) | ((with_reducible refine gate_callee (f := 14) rfl ?_); refine sqL (some 21) Try.func14 #[.agg #[.int .i64 a1_0, .slice A1_1 l1_1.length c1_1], .int .i64 t172] ?_; (with_reducible refine (laws_szGaps.calls a1_0 _ _ l1_1 t172 t173 _ ?side1 ?side2 A10.out).mono ?_); (case side1 => repeat (first | exact (Kd.C_below HR1_1.out HB.out) | (with_reducible refine Kd.C_alloc ?_ _) | (with_reducible refine Kd.C_drewN ?_ _) | (with_reducible refine Kd.C_drew ?_))); (case side2 => exact HC1_1.out); rintro e w42 ⟨rfl, hb⟩; refine ⟨_, rfl, ?_⟩; replace BK170 := sqb BK170 hb; replace BK171 := sqb BK171 hb; replace HB := sqs HB hb; (try clear hb)))
            replace BK170 := Aside0.mk (blk_drew BK170.out)
            replace BK171 := Aside0.mk (blk_drew BK171.out)
            replace HB := Aside0.mk (below_drew1 HB.out)
            refine start_ (n := 7) (S := fun w' => w'.cell? ⟨gb170, 0, none⟩ = some (.int .i64 a0_0) ∧ w'.cell? ⟨gb170, 1, none⟩ = some (.slice A0_1 l0_1.length c0_1) ∧ w'.cell? ⟨gb171, 0, none⟩ = some (.int .i64 a1_0) ∧ w'.cell? ⟨gb171, 1, none⟩ = some (.slice A1_1 l1_1.length c1_1)) (ds := []) #[false, false, false, false, false, false, false] (by kernel_rfl) rfl rfl ⟨(blk_cell BK170.out 0).trans rfl, (blk_cell BK170.out 1).trans rfl, (blk_cell BK171.out 0).trans rfl, (blk_cell BK171.out 1).trans rfl⟩ (fun hHeld => ?_)
            generalize w42.drew = w43 at BK170 BK171 HB hHeld ⊢
            refine take_ (i := 0) (N := some 24) (v := ?_) (a' := ?_) #[true, false, false, false, false, false, false] rfl rfl (by kernel_rfl) (fun _ _ _ h => h) (Or.inl ⟨by rfl, ?_⟩) hHeld ?_ ?_
            rotate_left
            · rintro w' ⟨s0, s1, s2, s3⟩
              go_simp
              with_reducible rfl
            rotate_left
            · simp only [Act.put, List.setIfInBounds_toArray, List.set_cons_zero, List.set_cons_succ, i64_w, i32_w]
              rfl
            refine take_ (i := 2) (N := some 26) (v := ?_) (a' := ?_) #[true, false, true, false, false, false, false] rfl rfl (by kernel_rfl) (fun _ _ _ h => h) (Or.inl ⟨by rfl, ?_⟩) hHeld ?_ ?_
            rotate_left
            · rintro w' ⟨s0, s1, s2, s3⟩
              go_simp
              with_reducible rfl
            rotate_left
            · simp only [Act.put, List.setIfInBounds_toArray, List.set_cons_zero, List.set_cons_succ, i64_w, i32_w]
              rfl
            refine join_ (σ := Value × Value × Value × Nat) 1 #[true, true, true, true, true, true, false] (fun s_ => [(25, .agg #[.int .i64 t174, s_.1]), (27, .agg #[.int .i64 t178, s_.2.1]), (28, .agg #[.int .i64 t182, s_.2.2.1]), (6, .pointer (some ⟨s_.2.2.2, 0, none⟩))]) (fun s_ w' => (w'.cell? ⟨gb170, 0, none⟩ = some (.int .i64 a0_0) ∧ w'.cell? ⟨gb170, 1, none⟩ = some (.slice A0_1 l0_1.length c0_1) ∧ w'.cell? ⟨gb171, 0, none⟩ = some (.int .i64 a1_0) ∧ w'.cell? ⟨gb171, 1, none⟩ = some (.slice A1_1 l1_1.length c1_1)) ∧ (Kd.R (Kd.int .i64) 3 w' w.heap.size (fun k_ => some k_ ≠ (s_.2.1 : Value).ownBlock ∧ some k_ ≠ (s_.2.2.1 : Value).ownBlock) s_.1 t175) ∧ (Kd.R (Kd.int .i64) 3 w' w.heap.size (fun k_ => some k_ ≠ (s_.1 : Value).ownBlock ∧ some k_ ≠ (s_.2.2.1 : Value).ownBlock) s_.2.1 t179) ∧ (Kd.R (Kd.int .i64) 3 w' w.heap.size (fun k_ => some k_ ≠ (s_.1 : Value).ownBlock ∧ some k_ ≠ (s_.2.1 : Value).ownBlock) s_.2.2.1 t183) ∧ (w'.heap[gb170]? = some (.cells #[.int .i64 a0_0, .slice A0_1 l0_1.length c0_1] 24 (0, 0))) ∧ (w'.heap[gb171]? = some (.cells #[.int .i64 a1_0, .slice A1_1 l1_1.length c1_1] 24 (0, 0))) ∧ (w'.heap[s_.2.2.2]? = some (.cells #[.int .i64 0, .slice none 0 0] 29 (0, 0))) ∧ (w.heap.size ≤ s_.2.2.2) ∧ (w.heap.size ≤ s_.2.2.2) ∧ (gb170 ≠ s_.2.2.2) ∧ (s_.2.2.2 ≠ gb170) ∧ (gb171 ≠ s_.2.2.2) ∧ (s_.2.2.2 ≠ gb171) ∧ (Below w.heap.size w w')) ?_ ?_
            rotate_left
            · intro hCont
              refine two_ (i := 1) (j := 5) (Ni := some 25) (Nj := some 6) #[true, true, true, false, false, false, false] #[true, false, true, false, false, true, false] rfl rfl rfl rfl (by kernel_rfl) (by decide) (by decide) (fun K hK => ?_) (fun K hK => ?_)
              · skip
                refine sqG Try.func16 #[.agg #[.int .i64 a0_0, .slice A0_1 l0_1.length c0_1]] ?_
                with_reducible refine (laws_toGaps.calls k a0_0 _ _ l0_1 t174 t175 _ ?side1 ?side2 A19.out).mono ?_
                (case side1 => repeat (first | exact (Kd.C_below HR0_1.out HB.out) | (with_reducible refine Kd.C_alloc ?_ _) | (with_reducible refine Kd.C_drewN ?_ _) | (with_reducible refine Kd.C_drew ?_)))
                (case side2 => exact HC0_1.out)
                rintro e w44 ⟨v176, rfl, ho0, hb⟩
                refine ⟨_, rfl, ?_⟩
                have HO177 := Aside0.mk (Kd.R_lower ho0 (below_size (by repeat (first | (with_reducible first | exact HB.out | apply below_alloc | apply pw_below_drewN | apply below_drew1 | refine below_set ?_ GE170.out | refine below_set ?_ GE171.out) | exact HB.out))))
                replace BK170 := sqb BK170 hb
                replace BK171 := sqb BK171 hb
                replace HB := sqs HB hb
                (try clear hb)
                (try clear hb2)
                (try clear hk)
                (try clear hi)
                (try clear ho0)
                refine hK.out _ _ sqz (fun hHeld => ?_)
                clear hK K
                refine sqnm ?_
                refine two_ (i := 3) (j := 5) (Ni := some 27) (Nj := some 6) #[true, true, true, true, false, false, false] #[true, true, true, false, false, true, false] rfl rfl rfl rfl (by kernel_rfl) (by decide) (by decide) (fun K hK => ?_) (fun K hK => ?_)
                · skip
                  refine sqG Try.func16 #[.agg #[.int .i64 a1_0, .slice A1_1 l1_1.length c1_1]] ?_
                  with_reducible refine (laws_toGaps.calls k a1_0 _ _ l1_1 t178 t179 _ ?side1 ?side2 A20.out).mono ?_
                  (case side1 => repeat (first | exact (Kd.C_below HR1_1.out HB.out) | (with_reducible refine Kd.C_alloc ?_ _) | (with_reducible refine Kd.C_drewN ?_ _) | (with_reducible refine Kd.C_drew ?_)))
                  (case side2 => exact HC1_1.out)
                  rintro e w45 ⟨v180, rfl, ho0, hb⟩
                  refine ⟨_, rfl, ?_⟩
                  have n0_ := Aside0.mk (Kd.R_elder' (by (with_reducible repeat (first | apply Kd.R_alloc | apply Kd.R_drewN | apply Kd.R_drew)); exact HO177.out) (Kd.R_base ho0) hb)
                  have n1_ := Aside0.mk (Kd.R_lower (Kd.R_new' ho0 (Kd.R_lt (by (with_reducible repeat (first | apply Kd.R_alloc | apply Kd.R_drewN | apply Kd.R_drew)); exact HO177.out))) (below_size (by repeat (first | (with_reducible first | exact HB.out | apply below_alloc | apply pw_below_drewN | apply below_drew1 | refine below_set ?_ GE170.out | refine below_set ?_ GE171.out) | exact HB.out))))
                  have n2_ := sqb BK170 hb
                  have n3_ := sqb BK171 hb
                  have n4_ := sqs HB hb
                  clear HO177
                  clear BK170
                  clear BK171
                  clear HB
                  have HO177 := n0_
                  have HO181 := n1_
                  have BK170 := n2_
                  have BK171 := n3_
                  have HB := n4_
                  clear n0_ n1_ n2_ n3_ n4_
                  (try clear hb)
                  (try clear hb2)
                  (try clear hk)
                  (try clear hi)
                  (try clear ho0)
                  obtain ⟨Ao46, co46, eo46⟩ := Kd.R_slice HO177.out
                  (first | subst eo46 | (injection eo46 with f1_ f2_ f3_; have f4_ := f1_.symm; have f5_ := f3_.symm; clear f1_ f2_ f3_; subst f4_; subst f5_))
                  obtain ⟨Ao47, co47, eo47⟩ := Kd.R_slice HO181.out
                  (first | subst eo47 | (injection eo47 with f1_ f2_ f3_; have f4_ := f1_.symm; have f5_ := f3_.symm; clear f1_ f2_ f3_; subst f4_; subst f5_))
                  refine hK.out _ _ sqz (fun hHeld => ?_)
                  clear hK K
                  refine sqnm ?_
                  refine two_ (i := 4) (j := 5) (Ni := some 28) (Nj := some 6) #[true, true, true, true, true, false, false] #[true, true, true, true, false, true, false] rfl rfl rfl rfl (by kernel_rfl) (by decide) (by decide) (fun K hK => ?_) (fun K hK => ?_)
                  · skip
                    refine sqG Try.func24 #[.agg #[.int .i64 t174, .slice Ao46 t175.length co46], .agg #[.int .i64 t178, .slice Ao47 t179.length co47]] ?_
                    with_reducible refine (spec_GapsJoin.calls k t174 _ _ t175 t178 _ _ t179 t182 t183 _ ?side1 ?side2 ?side3 ?side4 A21.out).mono ?_
                    (case side1 => repeat (first | exact (Kd.R_reads' HO177.out).2.2 | (with_reducible refine Kd.C_alloc ?_ _) | (with_reducible refine Kd.C_drewN ?_ _) | (with_reducible refine Kd.C_drew ?_)))
                    (case side2 => exact (Kd.R_reads' HO177.out).2.1)
                    (case side3 => repeat (first | exact (Kd.R_reads' HO181.out).2.2 | (with_reducible refine Kd.C_alloc ?_ _) | (with_reducible refine Kd.C_drewN ?_ _) | (with_reducible refine Kd.C_drew ?_)))
                    (case side4 => exact (Kd.R_reads' HO181.out).2.1)
                    rintro e w48 ⟨v184, rfl, ho0, hb⟩
                    refine ⟨_, rfl, ?_⟩
                    have n0_ := Aside0.mk (Kd.R_elder' (by (with_reducible repeat (first | apply Kd.R_alloc | apply Kd.R_drewN | apply Kd.R_drew)); exact HO177.out) (Kd.R_base ho0) hb)
                    have n1_ := Aside0.mk (Kd.R_elder' (by (with_reducible repeat (first | apply Kd.R_alloc | apply Kd.R_drewN | apply Kd.R_drew)); exact HO181.out) (Kd.R_base ho0) hb)
                    have n2_ := Aside0.mk (Kd.R_lower (Kd.R_new' (Kd.R_new' ho0 (Kd.R_lt (by (with_reducible repeat (first | apply Kd.R_alloc | apply Kd.R_drewN | apply Kd.R_drew)); exact HO177.out))) (Kd.R_lt (by (with_reducible repeat (first | apply Kd.R_alloc | apply Kd.R_drewN | apply Kd.R_drew)); exact HO181.out))) (below_size (by repeat (first | (with_reducible first | exact HB.out | apply below_alloc | apply pw_below_drewN | apply below_drew1 | refine below_set ?_ GE170.out | refine below_set ?_ GE171.out) | exact HB.out))))
                    have n3_ := sqb BK170 hb
                    have n4_ := sqb BK171 hb
                    have n5_ := sqs HB hb
                    clear HO177
                    clear HO181
                    clear BK170
                    clear BK171
                    clear HB
                    have HO177 := n0_
                    have HO181 := n1_
                    have HO185 := n2_
                    have BK170 := n3_
                    have BK171 := n4_
                    have HB := n5_
                    clear n0_ n1_ n2_ n3_ n4_ n5_
                    (try clear hb)
                    (try clear hb2)
                    (try clear hk)
                    (try clear hi)
                    (try clear ho0)
                    refine hK.out _ _ sqz (fun hHeld => ?_)
                    clear hK K
                    refine sqnm ?_
                    refine one_ (i := 5) (N := some 6) #[true, true, true, true, true, true, false] rfl rfl (by kernel_rfl) (by decide) (fun K hK => ?_)
                    refine box_step ?hg (N := 6) ?hd (cs := #[.int .i64 0, .slice none 0 0]) (t := 29) ?hr ?_; (case hd => rfl); (case hg => rfl); (case hr => first | (go_simp; done) | (go_simp; rfl))
                    intro gb186 hg w49 hbox hb
                    have n0_ := Aside0.mk (Kd.R_below (by (with_reducible repeat (first | apply Kd.R_alloc | apply Kd.R_drewN | apply Kd.R_drew)); exact HO177.out) hb)
                    have n1_ := Aside0.mk (Kd.R_below (by (with_reducible repeat (first | apply Kd.R_alloc | apply Kd.R_drewN | apply Kd.R_drew)); exact HO181.out) hb)
                    have n2_ := Aside0.mk (Kd.R_below (by (with_reducible repeat (first | apply Kd.R_alloc | apply Kd.R_drewN | apply Kd.R_drew)); exact HO185.out) hb)
                    have n3_ := sqb BK170 hb
                    have n4_ := sqb BK171 hb
                    have n5_ := sqs HB hb
                    have n6_ := Aside0.mk (hbox)
                    have n7_ := sqg HB hg
                    have n8_ := sqg HB hg
                    have n9_ := sqn BK170 hg
                    have n10_ := sqm BK170 hg
                    have n11_ := sqn BK171 hg
                    have n12_ := sqm BK171 hg
                    clear HO177
                    clear HO181
                    clear HO185
                    clear BK170
                    clear BK171
                    clear HB
                    have HO177 := n0_
                    have HO181 := n1_
                    have HO185 := n2_
                    have BK170 := n3_
                    have BK171 := n4_
                    have HB := n5_
                    have BK186 := n6_
                    have GW186 := n7_
                    have GE186 := n8_
                    have NB170_186 := n9_
                    have NB186_170 := n10_
                    have NB171_186 := n11_
                    have NB186_171 := n12_
                    clear n0_ n1_ n2_ n3_ n4_ n5_ n6_ n7_ n8_ n9_ n10_ n11_ n12_
                    clear hb hbox hg
                    refine hK.out _ _ sqz (fun hHeld => ?_)
                    clear hK K
                    refine sqnm ?_
                    exact norm_ (by simp only [putAll, Act.put, List.setIfInBounds_toArray, List.set_cons_zero, List.set_cons_succ]) (hCont (.slice Ao46 t175.length co46, .slice Ao47 t179.length co47, v184, gb186) _ ⟨hHeld, (by (with_reducible repeat (first | apply Kd.R_alloc | apply Kd.R_drewN | apply Kd.R_drew)); exact Kd.R_mono HO177.out (fun _ hk => ⟨hk.1.2, hk.2⟩)), (by (with_reducible repeat (first | apply Kd.R_alloc | apply Kd.R_drewN | apply Kd.R_drew)); exact Kd.R_mono HO181.out (fun _ hk => ⟨hk.1.2, hk.2⟩)), (by (with_reducible repeat (first | apply Kd.R_alloc | apply Kd.R_drewN | apply Kd.R_drew)); exact Kd.R_mono HO185.out (fun _ hk => ⟨hk.1.2, hk.2⟩)), (by refine sqt ?_; exact BK170.out), (by refine sqt ?_; exact BK171.out), (by refine sqt ?_; exact BK186.out), GW186.out, GE186.out, NB170_186.out, NB186_170.out, NB171_186.out, NB186_171.out, (by repeat (first | (with_reducible first | exact HB.out | apply below_alloc | apply pw_below_drewN | apply below_drew1 | refine below_set ?_ GE170.out | refine below_set ?_ GE171.out | refine below_set ?_ GE186.out) | exact HB.out))⟩)
                  · skip
                    refine box_step ?hg (N := 6) ?hd (cs := #[.int .i64 0, .slice none 0 0]) (t := 29) ?hr ?_; (case hd => rfl); (case hg => rfl); (case hr => first | (go_simp; done) | (go_simp; rfl))
                    intro gb186 hg w46 hbox hb
                    have n0_ := Aside0.mk (Kd.R_below (by (with_reducible repeat (first | apply Kd.R_alloc | apply Kd.R_drewN | apply Kd.R_drew)); exact HO177.out) hb)
                    have n1_ := Aside0.mk (Kd.R_below (by (with_reducible repeat (first | apply Kd.R_alloc | apply Kd.R_drewN | apply Kd.R_drew)); exact HO181.out) hb)
                    have n2_ := sqb BK170 hb
                    have n3_ := sqb BK171 hb
                    have n4_ := sqs HB hb
                    have n5_ := Aside0.mk (hbox)
                    have n6_ := sqg HB hg
                    have n7_ := sqg HB hg
                    have n8_ := sqn BK170 hg
                    have n9_ := sqm BK170 hg
                    have n10_ := sqn BK171 hg
                    have n11_ := sqm BK171 hg
                    clear HO177
                    clear HO181
                    clear BK170
                    clear BK171
                    clear HB
                    have HO177 := n0_
                    have HO181 := n1_
                    have BK170 := n2_
                    have BK171 := n3_
                    have HB := n4_
                    have BK186 := n5_
                    have GW186 := n6_
                    have GE186 := n7_
                    have NB170_186 := n8_
                    have NB186_170 := n9_
                    have NB171_186 := n10_
                    have NB186_171 := n11_
                    clear n0_ n1_ n2_ n3_ n4_ n5_ n6_ n7_ n8_ n9_ n10_ n11_
                    clear hb hbox hg
                    obtain ⟨Ao47, co47, eo47⟩ := Kd.R_slice HO177.out
                    (first | subst eo47 | (injection eo47 with f1_ f2_ f3_; have f4_ := f1_.symm; have f5_ := f3_.symm; clear f1_ f2_ f3_; subst f4_; subst f5_))
                    obtain ⟨Ao48, co48, eo48⟩ := Kd.R_slice HO181.out
                    (first | subst eo48 | (injection eo48 with f1_ f2_ f3_; have f4_ := f1_.symm; have f5_ := f3_.symm; clear f1_ f2_ f3_; subst f4_; subst f5_))
                    refine hK.out _ _ sqz (fun hHeld => ?_)
                    clear hK K
                    refine sqnm ?_
                    refine one_ (i := 4) (N := some 28) #[true, true, true, true, true, true, false] rfl rfl (by kernel_rfl) (by decide) (fun K hK => ?_)
                    refine sqG Try.func24 #[.agg #[.int .i64 t174, .slice Ao47 t175.length co47], .agg #[.int .i64 t178, .slice Ao48 t179.length co48]] ?_
                    with_reducible refine (spec_GapsJoin.calls k t174 _ _ t175 t178 _ _ t179 t182 t183 _ ?side1 ?side2 ?side3 ?side4 A21.out).mono ?_
                    (case side1 => repeat (first | exact (Kd.R_reads' HO177.out).2.2 | (with_reducible refine Kd.C_alloc ?_ _) | (with_reducible refine Kd.C_drewN ?_ _) | (with_reducible refine Kd.C_drew ?_)))
                    (case side2 => exact (Kd.R_reads' HO177.out).2.1)
                    (case side3 => repeat (first | exact (Kd.R_reads' HO181.out).2.2 | (with_reducible refine Kd.C_alloc ?_ _) | (with_reducible refine Kd.C_drewN ?_ _) | (with_reducible refine Kd.C_drew ?_)))
                    (case side4 => exact (Kd.R_reads' HO181.out).2.1)
                    rintro e w49 ⟨v184, rfl, ho0, hb⟩
                    refine ⟨_, rfl, ?_⟩
                    have n0_ := Aside0.mk (Kd.R_elder' (by (with_reducible repeat (first | apply Kd.R_alloc | apply Kd.R_drewN | apply Kd.R_drew)); exact HO177.out) (Kd.R_base ho0) hb)
                    have n1_ := Aside0.mk (Kd.R_elder' (by (with_reducible repeat (first | apply Kd.R_alloc | apply Kd.R_drewN | apply Kd.R_drew)); exact HO181.out) (Kd.R_base ho0) hb)
                    have n2_ := Aside0.mk (Kd.R_lower (Kd.R_new' (Kd.R_new' ho0 (Kd.R_lt (by (with_reducible repeat (first | apply Kd.R_alloc | apply Kd.R_drewN | apply Kd.R_drew)); exact HO177.out))) (Kd.R_lt (by (with_reducible repeat (first | apply Kd.R_alloc | apply Kd.R_drewN | apply Kd.R_drew)); exact HO181.out))) (below_size (by repeat (first | (with_reducible first | exact HB.out | apply below_alloc | apply pw_below_drewN | apply below_drew1 | refine below_set ?_ GE170.out | refine below_set ?_ GE171.out | refine below_set ?_ GE186.out) | exact HB.out))))
                    have n3_ := sqb BK170 hb
                    have n4_ := sqb BK171 hb
                    have n5_ := sqb BK186 hb
                    have n6_ := sqs HB hb
                    clear HO177
                    clear HO181
                    clear BK170
                    clear BK171
                    clear BK186
                    clear HB
                    have HO177 := n0_
                    have HO181 := n1_
                    have HO185 := n2_
                    have BK170 := n3_
                    have BK171 := n4_
                    have BK186 := n5_
                    have HB := n6_
                    clear n0_ n1_ n2_ n3_ n4_ n5_ n6_
                    (try clear hb)
                    (try clear hb2)
                    (try clear hk)
                    (try clear hi)
                    (try clear ho0)
                    refine hK.out _ _ sqz (fun hHeld => ?_)
                    clear hK K
                    refine sqnm ?_
                    exact norm_ (by simp only [putAll, Act.put, List.setIfInBounds_toArray, List.set_cons_zero, List.set_cons_succ]) (hCont (.slice Ao47 t175.length co47, .slice Ao48 t179.length co48, v184, gb186) _ ⟨hHeld, (by (with_reducible repeat (first | apply Kd.R_alloc | apply Kd.R_drewN | apply Kd.R_drew)); exact Kd.R_mono HO177.out (fun _ hk => ⟨hk.1.2, hk.2⟩)), (by (with_reducible repeat (first | apply Kd.R_alloc | apply Kd.R_drewN | apply Kd.R_drew)); exact Kd.R_mono HO181.out (fun _ hk => ⟨hk.1.2, hk.2⟩)), (by (with_reducible repeat (first | apply Kd.R_alloc | apply Kd.R_drewN | apply Kd.R_drew)); exact Kd.R_mono HO185.out (fun _ hk => ⟨hk.1.2, hk.2⟩)), (by refine sqt ?_; exact BK170.out), (by refine sqt ?_; exact BK171.out), (by refine sqt ?_; exact BK186.out), GW186.out, GE186.out, NB170_186.out, NB186_170.out, NB171_186.out, NB186_171.out, (by repeat (first | (with_reducible first | exact HB.out | apply below_alloc | apply pw_below_drewN | apply below_drew1 | refine below_set ?_ GE170.out | refine below_set ?_ GE171.out | refine below_set ?_ GE186.out) | exact HB.out))⟩)
                · skip
                  refine box_step ?hg (N := 6) ?hd (cs := #[.int .i64 0, .slice none 0 0]) (t := 29) ?hr ?_; (case hd => rfl); (case hg => rfl); (case hr => first | (go_simp; done) | (go_simp; rfl))
                  intro gb186 hg w45 hbox hb
                  have n0_ := Aside0.mk (Kd.R_below (by (with_reducible repeat (first | apply Kd.R_alloc | apply Kd.R_drewN | apply Kd.R_drew)); exact HO177.out) hb)
                  have n1_ := sqb BK170 hb
                  have n2_ := sqb BK171 hb
                  have n3_ := sqs HB hb
                  have n4_ := Aside0.mk (hbox)
                  have n5_ := sqg HB hg
                  have n6_ := sqg HB hg
                  have n7_ := sqn BK170 hg
                  have n8_ := sqm BK170 hg
                  have n9_ := sqn BK171 hg
                  have n10_ := sqm BK171 hg
                  clear HO177
                  clear BK170
                  clear BK171
                  clear HB
                  have HO177 := n0_
                  have BK170 := n1_
                  have BK171 := n2_
                  have HB := n3_
                  have BK186 := n4_
                  have GW186 := n5_
                  have GE186 := n6_
                  have NB170_186 := n7_
                  have NB186_170 := n8_
                  have NB171_186 := n9_
                  have NB186_171 := n10_
                  clear n0_ n1_ n2_ n3_ n4_ n5_ n6_ n7_ n8_ n9_ n10_
                  clear hb hbox hg
                  refine hK.out _ _ sqz (fun hHeld => ?_)
                  clear hK K
                  refine sqnm ?_
                  refine one_ (i := 3) (N := some 27) #[true, true, true, true, false, true, false] rfl rfl (by kernel_rfl) (by decide) (fun K hK => ?_)
                  refine sqG Try.func16 #[.agg #[.int .i64 a1_0, .slice A1_1 l1_1.length c1_1]] ?_
                  with_reducible refine (laws_toGaps.calls k a1_0 _ _ l1_1 t178 t179 _ ?side1 ?side2 A20.out).mono ?_
                  (case side1 => repeat (first | exact (Kd.C_below HR1_1.out HB.out) | (with_reducible refine Kd.C_alloc ?_ _) | (with_reducible refine Kd.C_drewN ?_ _) | (with_reducible refine Kd.C_drew ?_)))
                  (case side2 => exact HC1_1.out)
                  rintro e w46 ⟨v180, rfl, ho0, hb⟩
                  refine ⟨_, rfl, ?_⟩
                  have n0_ := Aside0.mk (Kd.R_elder' (by (with_reducible repeat (first | apply Kd.R_alloc | apply Kd.R_drewN | apply Kd.R_drew)); exact HO177.out) (Kd.R_base ho0) hb)
                  have n1_ := Aside0.mk (Kd.R_lower (Kd.R_new' ho0 (Kd.R_lt (by (with_reducible repeat (first | apply Kd.R_alloc | apply Kd.R_drewN | apply Kd.R_drew)); exact HO177.out))) (below_size (by repeat (first | (with_reducible first | exact HB.out | apply below_alloc | apply pw_below_drewN | apply below_drew1 | refine below_set ?_ GE170.out | refine below_set ?_ GE171.out | refine below_set ?_ GE186.out) | exact HB.out))))
                  have n2_ := sqb BK170 hb
                  have n3_ := sqb BK171 hb
                  have n4_ := sqb BK186 hb
                  have n5_ := sqs HB hb
                  clear HO177
                  clear BK170
                  clear BK171
                  clear BK186
                  clear HB
                  have HO177 := n0_
                  have HO181 := n1_
                  have BK170 := n2_
                  have BK171 := n3_
                  have BK186 := n4_
                  have HB := n5_
                  clear n0_ n1_ n2_ n3_ n4_ n5_
                  (try clear hb)
                  (try clear hb2)
                  (try clear hk)
                  (try clear hi)
                  (try clear ho0)
                  obtain ⟨Ao47, co47, eo47⟩ := Kd.R_slice HO177.out
                  (first | subst eo47 | (injection eo47 with f1_ f2_ f3_; have f4_ := f1_.symm; have f5_ := f3_.symm; clear f1_ f2_ f3_; subst f4_; subst f5_))
                  obtain ⟨Ao48, co48, eo48⟩ := Kd.R_slice HO181.out
                  (first | subst eo48 | (injection eo48 with f1_ f2_ f3_; have f4_ := f1_.symm; have f5_ := f3_.symm; clear f1_ f2_ f3_; subst f4_; subst f5_))
                  refine hK.out _ _ sqz (fun hHeld => ?_)
                  clear hK K
                  refine sqnm ?_
                  refine one_ (i := 4) (N := some 28) #[true, true, true, true, true, true, false] rfl rfl (by kernel_rfl) (by decide) (fun K hK => ?_)
                  refine sqG Try.func24 #[.agg #[.int .i64 t174, .slice Ao47 t175.length co47], .agg #[.int .i64 t178, .slice Ao48 t179.length co48]] ?_
                  with_reducible refine (spec_GapsJoin.calls k t174 _ _ t175 t178 _ _ t179 t182 t183 _ ?side1 ?side2 ?side3 ?side4 A21.out).mono ?_
                  (case side1 => repeat (first | exact (Kd.R_reads' HO177.out).2.2 | (with_reducible refine Kd.C_alloc ?_ _) | (with_reducible refine Kd.C_drewN ?_ _) | (with_reducible refine Kd.C_drew ?_)))
                  (case side2 => exact (Kd.R_reads' HO177.out).2.1)
                  (case side3 => repeat (first | exact (Kd.R_reads' HO181.out).2.2 | (with_reducible refine Kd.C_alloc ?_ _) | (with_reducible refine Kd.C_drewN ?_ _) | (with_reducible refine Kd.C_drew ?_)))
                  (case side4 => exact (Kd.R_reads' HO181.out).2.1)
                  rintro e w49 ⟨v184, rfl, ho0, hb⟩
                  refine ⟨_, rfl, ?_⟩
                  have n0_ := Aside0.mk (Kd.R_elder' (by (with_reducible repeat (first | apply Kd.R_alloc | apply Kd.R_drewN | apply Kd.R_drew)); exact HO177.out) (Kd.R_base ho0) hb)
                  have n1_ := Aside0.mk (Kd.R_elder' (by (with_reducible repeat (first | apply Kd.R_alloc | apply Kd.R_drewN | apply Kd.R_drew)); exact HO181.out) (Kd.R_base ho0) hb)
                  have n2_ := Aside0.mk (Kd.R_lower (Kd.R_new' (Kd.R_new' ho0 (Kd.R_lt (by (with_reducible repeat (first | apply Kd.R_alloc | apply Kd.R_drewN | apply Kd.R_drew)); exact HO177.out))) (Kd.R_lt (by (with_reducible repeat (first | apply Kd.R_alloc | apply Kd.R_drewN | apply Kd.R_drew)); exact HO181.out))) (below_size (by repeat (first | (with_reducible first | exact HB.out | apply below_alloc | apply pw_below_drewN | apply below_drew1 | refine below_set ?_ GE170.out | refine below_set ?_ GE171.out | refine below_set ?_ GE186.out) | exact HB.out))))
                  have n3_ := sqb BK170 hb
                  have n4_ := sqb BK171 hb
                  have n5_ := sqb BK186 hb
                  have n6_ := sqs HB hb
                  clear HO177
                  clear HO181
                  clear BK170
                  clear BK171
                  clear BK186
                  clear HB
                  have HO177 := n0_
                  have HO181 := n1_
                  have HO185 := n2_
                  have BK170 := n3_
                  have BK171 := n4_
                  have BK186 := n5_
                  have HB := n6_
                  clear n0_ n1_ n2_ n3_ n4_ n5_ n6_
                  (try clear hb)
                  (try clear hb2)
                  (try clear hk)
                  (try clear hi)
                  (try clear ho0)
                  refine hK.out _ _ sqz (fun hHeld => ?_)
                  clear hK K
                  refine sqnm ?_
                  exact norm_ (by simp only [putAll, Act.put, List.setIfInBounds_toArray, List.set_cons_zero, List.set_cons_succ]) (hCont (.slice Ao47 t175.length co47, .slice Ao48 t179.length co48, v184, gb186) _ ⟨hHeld, (by (with_reducible repeat (first | apply Kd.R_alloc | apply Kd.R_drewN | apply Kd.R_drew)); exact Kd.R_mono HO177.out (fun _ hk => ⟨hk.1.2, hk.2⟩)), (by (with_reducible repeat (first | apply Kd.R_alloc | apply Kd.R_drewN | apply Kd.R_drew)); exact Kd.R_mono HO181.out (fun _ hk => ⟨hk.1.2, hk.2⟩)), (by (with_reducible repeat (first | apply Kd.R_alloc | apply Kd.R_drewN | apply Kd.R_drew)); exact Kd.R_mono HO185.out (fun _ hk => ⟨hk.1.2, hk.2⟩)), (by refine sqt ?_; exact BK170.out), (by refine sqt ?_; exact BK171.out), (by refine sqt ?_; exact BK186.out), GW186.out, GE186.out, NB170_186.out, NB186_170.out, NB171_186.out, NB186_171.out, (by repeat (first | (with_reducible first | exact HB.out | apply below_alloc | apply pw_below_drewN | apply below_drew1 | refine below_set ?_ GE170.out | refine below_set ?_ GE171.out | refine below_set ?_ GE186.out) | exact HB.out))⟩)
              · skip
                refine box_step ?hg (N := 6) ?hd (cs := #[.int .i64 0, .slice none 0 0]) (t := 29) ?hr ?_; (case hd => rfl); (case hg => rfl); (case hr => first | (go_simp; done) | (go_simp; rfl))
                intro gb186 hg w44 hbox hb
                have BK186 := Aside0.mk (hbox)
                have GW186 := sqg HB hg
                have GE186 := sqg HB hg
                have NB170_186 := sqn BK170 hg
                have NB186_170 := sqm BK170 hg
                have NB171_186 := sqn BK171 hg
                have NB186_171 := sqm BK171 hg
                replace BK170 := sqb BK170 hb
                replace BK171 := sqb BK171 hb
                replace HB := sqs HB hb
                clear hb hbox hg
                refine hK.out _ _ sqz (fun hHeld => ?_)
                clear hK K
                refine sqnm ?_
                refine one_ (i := 1) (N := some 25) #[true, true, true, false, false, true, false] rfl rfl (by kernel_rfl) (by decide) (fun K hK => ?_)
                refine sqG Try.func16 #[.agg #[.int .i64 a0_0, .slice A0_1 l0_1.length c0_1]] ?_
                with_reducible refine (laws_toGaps.calls k a0_0 _ _ l0_1 t174 t175 _ ?side1 ?side2 A19.out).mono ?_
                (case side1 => repeat (first | exact (Kd.C_below HR0_1.out HB.out) | (with_reducible refine Kd.C_alloc ?_ _) | (with_reducible refine Kd.C_drewN ?_ _) | (with_reducible refine Kd.C_drew ?_)))
                (case side2 => exact HC0_1.out)
                rintro e w45 ⟨v176, rfl, ho0, hb⟩
                refine ⟨_, rfl, ?_⟩
                have HO177 := Aside0.mk (Kd.R_lower ho0 (below_size (by repeat (first | (with_reducible first | exact HB.out | apply below_alloc | apply pw_below_drewN | apply below_drew1 | refine below_set ?_ GE170.out | refine below_set ?_ GE171.out | refine below_set ?_ GE186.out) | exact HB.out))))
                replace BK170 := sqb BK170 hb
                replace BK171 := sqb BK171 hb
                replace BK186 := sqb BK186 hb
                replace HB := sqs HB hb
                (try clear hb)
                (try clear hb2)
                (try clear hk)
                (try clear hi)
                (try clear ho0)
                refine hK.out _ _ sqz (fun hHeld => ?_)
                clear hK K
                refine sqnm ?_
                refine one_ (i := 3) (N := some 27) #[true, true, true, true, false, true, false] rfl rfl (by kernel_rfl) (by decide) (fun K hK => ?_)
                refine sqG Try.func16 #[.agg #[.int .i64 a1_0, .slice A1_1 l1_1.length c1_1]] ?_
                with_reducible refine (laws_toGaps.calls k a1_0 _ _ l1_1 t178 t179 _ ?side1 ?side2 A20.out).mono ?_
                (case side1 => repeat (first | exact (Kd.C_below HR1_1.out HB.out) | (with_reducible refine Kd.C_alloc ?_ _) | (with_reducible refine Kd.C_drewN ?_ _) | (with_reducible refine Kd.C_drew ?_)))
                (case side2 => exact HC1_1.out)
                rintro e w46 ⟨v180, rfl, ho0, hb⟩
                refine ⟨_, rfl, ?_⟩
                have n0_ := Aside0.mk (Kd.R_elder' (by (with_reducible repeat (first | apply Kd.R_alloc | apply Kd.R_drewN | apply Kd.R_drew)); exact HO177.out) (Kd.R_base ho0) hb)
                have n1_ := Aside0.mk (Kd.R_lower (Kd.R_new' ho0 (Kd.R_lt (by (with_reducible repeat (first | apply Kd.R_alloc | apply Kd.R_drewN | apply Kd.R_drew)); exact HO177.out))) (below_size (by repeat (first | (with_reducible first | exact HB.out | apply below_alloc | apply pw_below_drewN | apply below_drew1 | refine below_set ?_ GE170.out | refine below_set ?_ GE171.out | refine below_set ?_ GE186.out) | exact HB.out))))
                have n2_ := sqb BK170 hb
                have n3_ := sqb BK171 hb
                have n4_ := sqb BK186 hb
                have n5_ := sqs HB hb
                clear HO177
                clear BK170
                clear BK171
                clear BK186
                clear HB
                have HO177 := n0_
                have HO181 := n1_
                have BK170 := n2_
                have BK171 := n3_
                have BK186 := n4_
                have HB := n5_
                clear n0_ n1_ n2_ n3_ n4_ n5_
                (try clear hb)
                (try clear hb2)
                (try clear hk)
                (try clear hi)
                (try clear ho0)
                obtain ⟨Ao47, co47, eo47⟩ := Kd.R_slice HO177.out
                (first | subst eo47 | (injection eo47 with f1_ f2_ f3_; have f4_ := f1_.symm; have f5_ := f3_.symm; clear f1_ f2_ f3_; subst f4_; subst f5_))
                obtain ⟨Ao48, co48, eo48⟩ := Kd.R_slice HO181.out
                (first | subst eo48 | (injection eo48 with f1_ f2_ f3_; have f4_ := f1_.symm; have f5_ := f3_.symm; clear f1_ f2_ f3_; subst f4_; subst f5_))
                refine hK.out _ _ sqz (fun hHeld => ?_)
                clear hK K
                refine sqnm ?_
                refine one_ (i := 4) (N := some 28) #[true, true, true, true, true, true, false] rfl rfl (by kernel_rfl) (by decide) (fun K hK => ?_)
                refine sqG Try.func24 #[.agg #[.int .i64 t174, .slice Ao47 t175.length co47], .agg #[.int .i64 t178, .slice Ao48 t179.length co48]] ?_
                with_reducible refine (spec_GapsJoin.calls k t174 _ _ t175 t178 _ _ t179 t182 t183 _ ?side1 ?side2 ?side3 ?side4 A21.out).mono ?_
                (case side1 => repeat (first | exact (Kd.R_reads' HO177.out).2.2 | (with_reducible refine Kd.C_alloc ?_ _) | (with_reducible refine Kd.C_drewN ?_ _) | (with_reducible refine Kd.C_drew ?_)))
                (case side2 => exact (Kd.R_reads' HO177.out).2.1)
                (case side3 => repeat (first | exact (Kd.R_reads' HO181.out).2.2 | (with_reducible refine Kd.C_alloc ?_ _) | (with_reducible refine Kd.C_drewN ?_ _) | (with_reducible refine Kd.C_drew ?_)))
                (case side4 => exact (Kd.R_reads' HO181.out).2.1)
                rintro e w49 ⟨v184, rfl, ho0, hb⟩
                refine ⟨_, rfl, ?_⟩
                have n0_ := Aside0.mk (Kd.R_elder' (by (with_reducible repeat (first | apply Kd.R_alloc | apply Kd.R_drewN | apply Kd.R_drew)); exact HO177.out) (Kd.R_base ho0) hb)
                have n1_ := Aside0.mk (Kd.R_elder' (by (with_reducible repeat (first | apply Kd.R_alloc | apply Kd.R_drewN | apply Kd.R_drew)); exact HO181.out) (Kd.R_base ho0) hb)
                have n2_ := Aside0.mk (Kd.R_lower (Kd.R_new' (Kd.R_new' ho0 (Kd.R_lt (by (with_reducible repeat (first | apply Kd.R_alloc | apply Kd.R_drewN | apply Kd.R_drew)); exact HO177.out))) (Kd.R_lt (by (with_reducible repeat (first | apply Kd.R_alloc | apply Kd.R_drewN | apply Kd.R_drew)); exact HO181.out))) (below_size (by repeat (first | (with_reducible first | exact HB.out | apply below_alloc | apply pw_below_drewN | apply below_drew1 | refine below_set ?_ GE170.out | refine below_set ?_ GE171.out | refine below_set ?_ GE186.out) | exact HB.out))))
                have n3_ := sqb BK170 hb
                have n4_ := sqb BK171 hb
                have n5_ := sqb BK186 hb
                have n6_ := sqs HB hb
                clear HO177
                clear HO181
                clear BK170
                clear BK171
                clear BK186
                clear HB
                have HO177 := n0_
                have HO181 := n1_
                have HO185 := n2_
                have BK170 := n3_
                have BK171 := n4_
                have BK186 := n5_
                have HB := n6_
                clear n0_ n1_ n2_ n3_ n4_ n5_ n6_
                (try clear hb)
                (try clear hb2)
                (try clear hk)
                (try clear hi)
                (try clear ho0)
                refine hK.out _ _ sqz (fun hHeld => ?_)
                clear hK K
                refine sqnm ?_
                exact norm_ (by simp only [putAll, Act.put, List.setIfInBounds_toArray, List.set_cons_zero, List.set_cons_succ]) (hCont (.slice Ao47 t175.length co47, .slice Ao48 t179.length co48, v184, gb186) _ ⟨hHeld, (by (with_reducible repeat (first | apply Kd.R_alloc | apply Kd.R_drewN | apply Kd.R_drew)); exact Kd.R_mono HO177.out (fun _ hk => ⟨hk.1.2, hk.2⟩)), (by (with_reducible repeat (first | apply Kd.R_alloc | apply Kd.R_drewN | apply Kd.R_drew)); exact Kd.R_mono HO181.out (fun _ hk => ⟨hk.1.2, hk.2⟩)), (by (with_reducible repeat (first | apply Kd.R_alloc | apply Kd.R_drewN | apply Kd.R_drew)); exact Kd.R_mono HO185.out (fun _ hk => ⟨hk.1.2, hk.2⟩)), (by refine sqt ?_; exact BK170.out), (by refine sqt ?_; exact BK171.out), (by refine sqt ?_; exact BK186.out), GW186.out, GE186.out, NB170_186.out, NB186_170.out, NB171_186.out, NB186_171.out, (by repeat (first | (with_reducible first | exact HB.out | apply below_alloc | apply pw_below_drewN | apply below_drew1 | refine below_set ?_ GE170.out | refine below_set ?_ GE171.out | refine below_set ?_ GE186.out) | exact HB.out))⟩)
            rintro ⟨v176, v180, v184, gb186⟩ w50 ⟨hS_, h0_, h1_, h2_, h3_, h4_, h5_, h6_, h7_, h8_, h9_, h10_, h11_, h12_⟩
            have n0_ : Aside0 (Kd.R (Kd.int .i64) 3 w50 w.heap.size (fun k_ => some k_ ≠ (v180 : Value).ownBlock ∧ some k_ ≠ (v184 : Value).ownBlock) v176 t175) := ⟨h0_⟩
            have n1_ : Aside0 (Kd.R (Kd.int .i64) 3 w50 w.heap.size (fun k_ => some k_ ≠ (v176 : Value).ownBlock ∧ some k_ ≠ (v184 : Value).ownBlock) v180 t179) := ⟨h1_⟩
            have n2_ : Aside0 (Kd.R (Kd.int .i64) 3 w50 w.heap.size (fun k_ => some k_ ≠ (v176 : Value).ownBlock ∧ some k_ ≠ (v180 : Value).ownBlock) v184 t183) := ⟨h2_⟩
            have n3_ : Aside0 (w50.heap[gb170]? = some (.cells #[.int .i64 a0_0, .slice A0_1 l0_1.length c0_1] 24 (0, 0))) := ⟨h3_⟩
            have n4_ : Aside0 (w50.heap[gb171]? = some (.cells #[.int .i64 a1_0, .slice A1_1 l1_1.length c1_1] 24 (0, 0))) := ⟨h4_⟩
            have n5_ : Aside0 (w50.heap[gb186]? = some (.cells #[.int .i64 0, .slice none 0 0] 29 (0, 0))) := ⟨h5_⟩
            have n6_ : Aside0 (w.heap.size ≤ gb186) := ⟨h6_⟩
            have n7_ : Aside0 (w.heap.size ≤ gb186) := ⟨h7_⟩
            have n8_ : Aside0 (gb170 ≠ gb186) := ⟨h8_⟩
            have n9_ : Aside0 (gb186 ≠ gb170) := ⟨h9_⟩
            have n10_ : Aside0 (gb171 ≠ gb186) := ⟨h10_⟩
            have n11_ : Aside0 (gb186 ≠ gb171) := ⟨h11_⟩
            have n12_ : Aside0 (Below w.heap.size w w50) := ⟨h12_⟩
            clear BK170
            clear BK171
            clear HB
            clear h0_ h1_ h2_ h3_ h4_ h5_ h6_ h7_ h8_ h9_ h10_ h11_ h12_
            have HO177 := n0_
            have HO181 := n1_
            have HO185 := n2_
            have BK170 := n3_
            have BK171 := n4_
            have BK186 := n5_
            have GW186 := n6_
            have GE186 := n7_
            have NB170_186 := n8_
            have NB186_170 := n9_
            have NB171_186 := n10_
            have NB186_171 := n11_
            have HB := n12_
            clear n0_ n1_ n2_ n3_ n4_ n5_ n6_ n7_ n8_ n9_ n10_ n11_ n12_
            have hHeld : w50.cell? ⟨gb170, 0, none⟩ = some (.int .i64 a0_0) ∧ w50.cell? ⟨gb170, 1, none⟩ = some (.slice A0_1 l0_1.length c0_1) ∧ w50.cell? ⟨gb171, 0, none⟩ = some (.int .i64 a1_0) ∧ w50.cell? ⟨gb171, 1, none⟩ = some (.slice A1_1 l1_1.length c1_1) := hS_
            obtain ⟨Ao52, co52, eo52⟩ := Kd.R_slice HO185.out
            (first | subst eo52 | (injection eo52 with f1_ f2_ f3_; have f4_ := f1_.symm; have f5_ := f3_.symm; clear f1_ f2_ f3_; subst f4_; subst f5_))
            refine norm_ (a' := ?_) ?_ ?_
            rotate_left
            · simp only [putAll, Act.put, List.setIfInBounds_toArray, List.set_cons_zero, List.set_cons_succ]
              rfl
            refine one_ (i := 6) (N := none) #[true, true, true, true, true, true, true] rfl rfl (by kernel_rfl) (by decide) (fun K hK => ?_)
            have hs51 : w50.cell? ⟨gb186, 0, none⟩ = some (.int .i64 0) := (blk_cell BK186.out 0).trans rfl
            have hfs51 := blk_frozen BK186.out 0
            have hns51_0 := NB170_186.out
            have hns51_1 := NB171_186.out
            have hms51_0 := NB186_170.out
            have hms51_1 := NB186_171.out
            have hs53 : w50.cell? ⟨gb186, 1, none⟩ = some (.slice none 0 0) := (blk_cell BK186.out 1).trans rfl
            have hfs53 := blk_frozen BK186.out 1
            have hns53_0 := NB170_186.out
            have hns53_1 := NB171_186.out
            have hms53_0 := NB186_170.out
            have hms53_1 := NB186_171.out
            refine skip_ (w1 := ?_) (by rfl) rfl ?_ ?_
            rotate_left
            · go_simp
              rfl
            refine hK.out _ _ ⟨((cell_far (p := ⟨gb186, _, none⟩) NB170_186.out _).trans (((cell_far (p := ⟨gb186, _, none⟩) NB170_186.out _).trans (hHeld.1)))), ((cell_far (p := ⟨gb186, _, none⟩) NB170_186.out _).trans (((cell_far (p := ⟨gb186, _, none⟩) NB170_186.out _).trans (hHeld.2.1)))), ((cell_far (p := ⟨gb186, _, none⟩) NB171_186.out _).trans (((cell_far (p := ⟨gb186, _, none⟩) NB171_186.out _).trans (hHeld.2.2.1)))), ((cell_far (p := ⟨gb186, _, none⟩) NB171_186.out _).trans (((cell_far (p := ⟨gb186, _, none⟩) NB171_186.out _).trans (hHeld.2.2.2))))⟩ (fun hHeld => ?_)
            clear hK K
            refine done_ (by kernel_rfl) ?_
            have hnb54 := NB170_186.out
            have hnc54 := NB186_170.out
            obtain ⟨hcz55_0, hcz55_1, hfz55_0, hfz55_1⟩ := sqc2 BK170
            try go_wp2_with (first | ((with_reducible refine gate_callee (f := 16) rfl ?_); refine sqL (some 30) Try.func16 #[.agg #[.int .i64 a0_0, .slice A0_1 l0_1.length c0_1]] ?_; (with_reducible refine (laws_toGaps.calls k a0_0 _ _ l0_1 t187 t188 _ ?side1 ?side2 A22.out).mono ?_); (case side1 => exact Kd.C_below HR0_1.out (by repeat (first | (with_reducible first | exact HB.out | apply below_alloc | apply pw_below_drewN | apply below_drew1 | refine below_set ?_ GE170.out | refine below_set ?_ GE171.out | refine below_set ?_ GE186.out) | exact HB.out))); (case side2 => exact HC0_1.out); rintro e w56 ⟨v189, rfl, ho0, hb⟩; refine ⟨_, rfl, ?_⟩; have n0_ := Aside0.mk (Kd.R_elder' (by (with_reducible repeat (first | apply Kd.R_alloc | apply Kd.R_drewN | apply Kd.R_drew)); exact (Kd.R_mono (Kd.R_far (p := ⟨gb186, 1, none⟩) (Kd.R_far (p := ⟨gb186, 0, none⟩) (Kd.R_types HO177.out BK186.out (by decide)) (fun _ hk => hk.2) (.int .i64 t182)) (fun _ hk => hk.2) (.slice Ao52 t183.length co52)) (fun _ h_ => h_.1))) (Kd.R_base ho0) hb); have n1_ := Aside0.mk (Kd.R_elder' (by (with_reducible repeat (first | apply Kd.R_alloc | apply Kd.R_drewN | apply Kd.R_drew)); exact (Kd.R_mono (Kd.R_far (p := ⟨gb186, 1, none⟩) (Kd.R_far (p := ⟨gb186, 0, none⟩) (Kd.R_types HO181.out BK186.out (by decide)) (fun _ hk => hk.2) (.int .i64 t182)) (fun _ hk => hk.2) (.slice Ao52 t183.length co52)) (fun _ h_ => h_.1))) (Kd.R_base ho0) hb); have n2_ := Aside0.mk (Kd.R_elder' (by (with_reducible repeat (first | apply Kd.R_alloc | apply Kd.R_drewN | apply Kd.R_drew)); exact (Kd.R_mono (Kd.R_far (p := ⟨gb186, 1, none⟩) (Kd.R_far (p := ⟨gb186, 0, none⟩) (Kd.R_types HO185.out BK186.out (by decide)) (fun _ hk => hk.2) (.int .i64 t182)) (fun _ hk => hk.2) (.slice Ao52 t183.length co52)) (fun _ h_ => h_.1))) (Kd.R_base ho0) hb); have n3_ := Aside0.mk (Kd.R_lower (Kd.R_new' (Kd.R_new' (Kd.R_new' ho0 (Kd.R_lt (by (with_reducible repeat (first | apply Kd.R_alloc | apply Kd.R_drewN | apply Kd.R_drew)); exact (Kd.R_mono (Kd.R_far (p := ⟨gb186, 1, none⟩) (Kd.R_far (p := ⟨gb186, 0, none⟩) (Kd.R_types HO177.out BK186.out (by decide)) (fun _ hk => hk.2) (.int .i64 t182)) (fun _ hk => hk.2) (.slice Ao52 t183.length co52)) (fun _ h_ => h_.1))))) (Kd.R_lt (by (with_reducible repeat (first | apply Kd.R_alloc | apply Kd.R_drewN | apply Kd.R_drew)); exact (Kd.R_mono (Kd.R_far (p := ⟨gb186, 1, none⟩) (Kd.R_far (p := ⟨gb186, 0, none⟩) (Kd.R_types HO181.out BK186.out (by decide)) (fun _ hk => hk.2) (.int .i64 t182)) (fun _ hk => hk.2) (.slice Ao52 t183.length co52)) (fun _ h_ => h_.1))))) (Kd.R_lt (by (with_reducible repeat (first | apply Kd.R_alloc | apply Kd.R_drewN | apply Kd.R_drew)); exact (Kd.R_mono (Kd.R_far (p := ⟨gb186, 1, none⟩) (Kd.R_far (p := ⟨gb186, 0, none⟩) (Kd.R_types HO185.out BK186.out (by decide)) (fun _ hk => hk.2) (.int .i64 t182)) (fun _ hk => hk.2) (.slice Ao52 t183.length co52)) (fun _ h_ => h_.1))))) (below_size (by repeat (first | (with_reducible first | exact HB.out | apply below_alloc | apply pw_below_drewN | apply below_drew1 | refine below_set ?_ GE170.out | refine below_set ?_ GE171.out | refine below_set ?_ GE186.out) | exact HB.out)))); have n4_ := Aside0.mk (blk_below (g := gb170) (o := .cells #[.int .i64 a0_0, .slice A0_1 l0_1.length c0_1] 24 (0, 0)) (by refine sqt ?_; refine blk_far ?_ NB170_186.out _; refine sqt ?_; refine blk_far ?_ NB170_186.out _; refine sqt ?_; exact BK170.out) hb); have n5_ := Aside0.mk (blk_below (g := gb171) (o := .cells #[.int .i64 a1_0, .slice A1_1 l1_1.length c1_1] 24 (0, 0)) (by refine sqt ?_; refine blk_far ?_ NB171_186.out _; refine sqt ?_; refine blk_far ?_ NB171_186.out _; refine sqt ?_; exact BK171.out) hb); have n6_ := Aside0.mk (blk_below (g := gb186) (o := .cells #[.int .i64 t182, .slice Ao52 t183.length co52] 29 (0, 0)) (by refine sqt ?_; refine blk_put (cs := #[.int .i64 t182, .slice none 0 0]) ?_ 1 _ rfl; refine sqt ?_; refine blk_put (cs := #[.int .i64 0, .slice none 0 0]) ?_ 0 _ rfl; refine sqt ?_; exact BK186.out) hb); have n7_ := sqs HB hb; clear HO177; clear HO181; clear HO185; clear BK170; clear BK171; clear BK186; clear HB; have HO177 := n0_; have HO181 := n1_; have HO185 := n2_; have HO190 := n3_; have BK170 := n4_; have BK171 := n5_; have BK186 := n6_; have HB := n7_; clear n0_ n1_ n2_ n3_ n4_ n5_ n6_ n7_; (try clear hb); (try clear hb2); (try clear hk); (try clear hi); (try clear ho0)) | ((with_reducible refine gate_dst (N := 7) rfl ?_); refine sqx 7 #[.int .i64 0, .slice none 0 0] 29 ?_; intro gb191 hg w57 hbox hb; have n0_ := Aside0.mk (Kd.R_below (by (with_reducible repeat (first | apply Kd.R_alloc | apply Kd.R_drewN | apply Kd.R_drew)); exact HO177.out) hb); have n1_ := Aside0.mk (Kd.R_below (by (with_reducible repeat (first | apply Kd.R_alloc | apply Kd.R_drewN | apply Kd.R_drew)); exact HO181.out) hb); have n2_ := Aside0.mk (Kd.R_below (by (with_reducible repeat (first | apply Kd.R_alloc | apply Kd.R_drewN | apply Kd.R_drew)); exact HO185.out) hb); have n3_ := Aside0.mk (Kd.R_below (by (with_reducible repeat (first | apply Kd.R_alloc | apply Kd.R_drewN | apply Kd.R_drew)); exact HO190.out) hb); have n4_ := sqb BK170 hb; have n5_ := sqb BK171 hb; have n6_ := sqb BK186 hb; have n7_ := sqs HB hb; have n8_ := Aside0.mk (hbox); have n9_ := sqg HB hg; have n10_ := sqg HB hg; have n11_ := sqn BK170 hg; have n12_ := sqm BK170 hg; have n13_ := sqn BK171 hg; have n14_ := sqm BK171 hg; have n15_ := sqn BK186 hg; have n16_ := sqm BK186 hg; clear HO177; clear HO181; clear HO185; clear HO190; clear BK170; clear BK171; clear BK186; clear HB; have HO177 := n0_; have HO181 := n1_; have HO185 := n2_; have HO190 := n3_; have BK170 := n4_; have BK171 := n5_; have BK186 := n6_; have HB := n7_; have BK191 := n8_; have GW191 := n9_; have GE191 := n10_; have NB170_191 := n11_; have NB191_170 := n12_; have NB171_191 := n13_; have NB191_171 := n14_; have NB186_191 := n15_; have NB191_186 := n16_; clear n0_ n1_ n2_ n3_ n4_ n5_ n6_ n7_ n8_ n9_ n10_ n11_ n12_ n13_ n14_ n15_ n16_; clear hb hbox hg; have hnb58 := NB191_170.out; have hnc58 := NB170_191.out; have hnb59 := NB191_171.out; have hnc59 := NB171_191.out; have hnb60 := NB191_186.out; have hnc60 := NB186_191.out; obtain ⟨hcz61_0, hcz61_1, hfz61_0, hfz61_1⟩ := sqc2 BK191; obtain ⟨Ao62, co62, eo62⟩ := Kd.R_slice HO190.out; subst eo62; have hnb63 := NB171_186.out; have hnc63 := NB186_171.out; obtain ⟨hcz64_0, hcz64_1, hfz64_0, hfz64_1⟩ := sqc2 BK171) | ((with_reducible refine gate_callee (f := 16) rfl ?_); refine sqL (some 32) Try.func16 #[.agg #[.int .i64 a1_0, .slice A1_1 l1_1.length c1_1]] ?_; (with_reducible refine (laws_toGaps.calls k a1_0 _ _ l1_1 t192 t193 _ ?side1 ?side2 A23.out).mono ?_); (case side1 => exact Kd.C_below HR1_1.out (by repeat (first | (with_reducible first | exact HB.out | apply below_alloc | apply pw_below_drewN | apply below_drew1 | refine below_set ?_ GE170.out | refine below_set ?_ GE171.out | refine below_set ?_ GE186.out | refine below_set ?_ GE191.out) | exact HB.out))); (case side2 => exact HC1_1.out); rintro e w65 ⟨v194, rfl, ho0, hb⟩; refine ⟨_, rfl, ?_⟩; have n0_ := Aside0.mk (Kd.R_elder' (by (with_reducible repeat (first | apply Kd.R_alloc | apply Kd.R_drewN | apply Kd.R_drew)); exact (Kd.R_mono (Kd.R_far (p := ⟨gb191, 1, none⟩) (Kd.R_far (p := ⟨gb191, 0, none⟩) (Kd.R_types HO177.out BK191.out (by decide)) (fun _ hk => hk.2) (.int .i64 t187)) (fun _ hk => hk.2) (.slice Ao62 t188.length co62)) (fun _ h_ => h_.1))) (Kd.R_base ho0) hb); have n1_ := Aside0.mk (Kd.R_elder' (by (with_reducible repeat (first | apply Kd.R_alloc | apply Kd.R_drewN | apply Kd.R_drew)); exact (Kd.R_mono (Kd.R_far (p := ⟨gb191, 1, none⟩) (Kd.R_far (p := ⟨gb191, 0, none⟩) (Kd.R_types HO181.out BK191.out (by decide)) (fun _ hk => hk.2) (.int .i64 t187)) (fun _ hk => hk.2) (.slice Ao62 t188.length co62)) (fun _ h_ => h_.1))) (Kd.R_base ho0) hb); have n2_ := Aside0.mk (Kd.R_elder' (by (with_reducible repeat (first | apply Kd.R_alloc | apply Kd.R_drewN | apply Kd.R_drew)); exact (Kd.R_mono (Kd.R_far (p := ⟨gb191, 1, none⟩) (Kd.R_far (p := ⟨gb191, 0, none⟩) (Kd.R_types HO185.out BK191.out (by decide)) (fun _ hk => hk.2) (.int .i64 t187)) (fun _ hk => hk.2) (.slice Ao62 t188.length co62)) (fun _ h_ => h_.1))) (Kd.R_base ho0) hb); have n3_ := Aside0.mk (Kd.R_elder' (by (with_reducible repeat (first | apply Kd.R_alloc | apply Kd.R_drewN | apply Kd.R_drew)); exact (Kd.R_mono (Kd.R_far (p := ⟨gb191, 1, none⟩) (Kd.R_far (p := ⟨gb191, 0, none⟩) (Kd.R_types HO190.out BK191.out (by decide)) (fun _ hk => hk.2) (.int .i64 t187)) (fun _ hk => hk.2) (.slice Ao62 t188.length co62)) (fun _ h_ => h_.1))) (Kd.R_base ho0) hb); have n4_ := Aside0.mk (Kd.R_lower (Kd.R_new' (Kd.R_new' (Kd.R_new' (Kd.R_new' ho0 (Kd.R_lt (by (with_reducible repeat (first | apply Kd.R_alloc | apply Kd.R_drewN | apply Kd.R_drew)); exact (Kd.R_mono (Kd.R_far (p := ⟨gb191, 1, none⟩) (Kd.R_far (p := ⟨gb191, 0, none⟩) (Kd.R_types HO177.out BK191.out (by decide)) (fun _ hk => hk.2) (.int .i64 t187)) (fun _ hk => hk.2) (.slice Ao62 t188.length co62)) (fun _ h_ => h_.1))))) (Kd.R_lt (by (with_reducible repeat (first | apply Kd.R_alloc | apply Kd.R_drewN | apply Kd.R_drew)); exact (Kd.R_mono (Kd.R_far (p := ⟨gb191, 1, none⟩) (Kd.R_far (p := ⟨gb191, 0, none⟩) (Kd.R_types HO181.out BK191.out (by decide)) (fun _ hk => hk.2) (.int .i64 t187)) (fun _ hk => hk.2) (.slice Ao62 t188.length co62)) (fun _ h_ => h_.1))))) (Kd.R_lt (by (with_reducible repeat (first | apply Kd.R_alloc | apply Kd.R_drewN | apply Kd.R_drew)); exact (Kd.R_mono (Kd.R_far (p := ⟨gb191, 1, none⟩) (Kd.R_far (p := ⟨gb191, 0, none⟩) (Kd.R_types HO185.out BK191.out (by decide)) (fun _ hk => hk.2) (.int .i64 t187)) (fun _ hk => hk.2) (.slice Ao62 t188.length co62)) (fun _ h_ => h_.1))))) (Kd.R_lt (by (with_reducible repeat (first | apply Kd.R_alloc | apply Kd.R_drewN | apply Kd.R_drew)); exact (Kd.R_mono (Kd.R_far (p := ⟨gb191, 1, none⟩) (Kd.R_far (p := ⟨gb191, 0, none⟩) (Kd.R_types HO190.out BK191.out (by decide)) (fun _ hk => hk.2) (.int .i64 t187)) (fun _ hk => hk.2) (.slice Ao62 t188.length co62)) (fun _ h_ => h_.1))))) (below_size (by repeat (first | (with_reducible first | exact HB.out | apply below_alloc | apply pw_below_drewN | apply below_drew1 | refine below_set ?_ GE170.out | refine below_set ?_ GE171.out | refine below_set ?_ GE186.out | refine below_set ?_ GE191.out) | exact HB.out)))); have n5_ := Aside0.mk (blk_below (g := gb170) (o := .cells #[.int .i64 a0_0, .slice A0_1 l0_1.length c0_1] 24 (0, 0)) (by refine sqt ?_; refine blk_far ?_ NB170_191.out _; refine sqt ?_; refine blk_far ?_ NB170_191.out _; refine sqt ?_; exact BK170.out) hb); have n6_ := Aside0.mk (blk_below (g := gb171) (o := .cells #[.int .i64 a1_0, .slice A1_1 l1_1.length c1_1] 24 (0, 0)) (by refine sqt ?_; refine blk_far ?_ NB171_191.out _; refine sqt ?_; refine blk_far ?_ NB171_191.out _; refine sqt ?_; exact BK171.out) hb); have n7_ := Aside0.mk (blk_below (g := gb186) (o := .cells #[.int .i64 t182, .slice Ao52 t183.length co52] 29 (0, 0)) (by refine sqt ?_; refine blk_far ?_ NB186_191.out _; refine sqt ?_; refine blk_far ?_ NB186_191.out _; refine sqt ?_; exact BK186.out) hb); have n8_ := Aside0.mk (blk_below (g := gb191) (o := .cells #[.int .i64 t187, .slice Ao62 t188.length co62] 29 (0, 0)) (by refine sqt ?_; refine blk_put (cs := #[.int .i64 t187, .slice none 0 0]) ?_ 1 _ rfl; refine sqt ?_; refine blk_put (cs := #[.int .i64 0, .slice none 0 0]) ?_ 0 _ rfl; refine sqt ?_; exact BK191.out) hb); have n9_ := sqs HB hb; clear HO177; clear HO181; clear HO185; clear HO190; clear BK170; clear BK171; clear BK186; clear BK191; clear HB; have HO177 := n0_; have HO181 := n1_; have HO185 := n2_; have HO190 := n3_; have HO195 := n4_; have BK170 := n5_; have BK171 := n6_; have BK186 := n7_; have BK191 := n8_; have HB := n9_; clear n0_ n1_ n2_ n3_ n4_ n5_ n6_ n7_ n8_ n9_; (try clear hb); (try clear hb2); (try clear hk); (try clear hi); (try clear ho0)) | ((with_reducible refine gate_dst (N := 8) rfl ?_); refine sqx 8 #[.int .i64 0, .slice none 0 0] 29 ?_; intro gb196 hg w66 hbox hb; have n0_ := Aside0.mk (Kd.R_below (by (with_reducible repeat (first | apply Kd.R_alloc | apply Kd.R_drewN | apply Kd.R_drew)); exact HO177.out) hb); have n1_ := Aside0.mk (Kd.R_below (by (with_reducible repeat (first | apply Kd.R_alloc | apply Kd.R_drewN | apply Kd.R_drew)); exact HO181.out) hb); have n2_ := Aside0.mk (Kd.R_below (by (with_reducible repeat (first | apply Kd.R_alloc | apply Kd.R_drewN | apply Kd.R_drew)); exact HO185.out) hb); have n3_ := Aside0.mk (Kd.R_below (by (with_reducible repeat (first | apply Kd.R_alloc | apply Kd.R_drewN | apply Kd.R_drew)); exact HO190.out) hb); have n4_ := Aside0.mk (Kd.R_below (by (with_reducible repeat (first | apply Kd.R_alloc | apply Kd.R_drewN | apply Kd.R_drew)); exact HO195.out) hb); have n5_ := sqb BK170 hb; have n6_ := sqb BK171 hb; have n7_ := sqb BK186 hb; have n8_ := sqb BK191 hb; have n9_ := sqs HB hb; have n10_ := Aside0.mk (hbox); have n11_ := sqg HB hg; have n12_ := sqg HB hg; have n13_ := sqn BK170 hg; have n14_ := sqm BK170 hg; have n15_ := sqn BK171 hg; have n16_ := sqm BK171 hg; have n17_ := sqn BK186 hg; have n18_ := sqm BK186 hg; have n19_ := sqn BK191 hg; have n20_ := sqm BK191 hg; clear HO177; clear HO181; clear HO185; clear HO190; clear HO195; clear BK170; clear BK171; clear BK186; clear BK191; clear HB; have HO177 := n0_; have HO181 := n1_; have HO185 := n2_; have HO190 := n3_; have HO195 := n4_; have BK170 := n5_; have BK171 := n6_; have BK186 := n7_; have BK191 := n8_; have HB := n9_; have BK196 := n10_; have GW196 := n11_; have GE196 := n12_; have NB170_196 := n13_; have NB196_170 := n14_; have NB171_196 := n15_; have NB196_171 := n16_; have NB186_196 := n17_; have NB196_186 := n18_; have NB191_196 := n19_; have NB196_191 := n20_; clear n0_ n1_ n2_ n3_ n4_ n5_ n6_ n7_ n8_ n9_ n10_ n11_ n12_ n13_ n14_ n15_ n16_ n17_ n18_ n19_ n20_; clear hb hbox hg; have hnb67 := NB196_170.out; have hnc67 := NB170_196.out; have hnb68 := NB196_171.out; have hnc68 := NB171_196.out; have hnb69 := NB196_186.out; have hnc69 := NB186_196.out; have hnb70 := NB196_191.out; have hnc70 := NB191_196.out; obtain ⟨hcz71_0, hcz71_1, hfz71_0, hfz71_1⟩ := sqc2 BK196; obtain ⟨Ao72, co72, eo72⟩ := Kd.R_slice HO195.out; subst eo72; obtain ⟨hcz73_0, hcz73_1, hfz73_0, hfz73_1⟩ := sqc2 BK191) | ((with_reducible refine gate_callee (f := 25) rfl ?_); refine sqL (some 35) Try.func25 #[.agg #[.int .i64 t187, .slice Ao62 t188.length co62], .agg #[.int .i64 t192, .slice Ao72 t193.length co72]] ?_; (with_reducible refine (impl_GapsJoin.calls k t187 _ _ t188 t192 _ _ t193 t197 t198 _ ?side1 ?side2 ?side3 ?side4 A24.out).mono ?_); (case side1 => refine (Kd.R_reads' (e := 3) (base := w.heap.size) (ok := fun k_ => ((((True ∧ some k_ ≠ (v176 : Value).ownBlock) ∧ some k_ ≠ (v180 : Value).ownBlock) ∧ some k_ ≠ (.slice Ao52 t183.length co52 : Value).ownBlock) ∧ some k_ ≠ (.slice Ao72 t193.length co72 : Value).ownBlock)) (n := t188.length) (c := co62) ?_).2.2; exact (by (with_reducible repeat (first | apply Kd.R_alloc | apply Kd.R_drewN | apply Kd.R_drew)); exact (Kd.R_mono (Kd.R_far (p := ⟨gb196, 1, none⟩) (Kd.R_far (p := ⟨gb196, 0, none⟩) (Kd.R_types HO190.out BK196.out (by decide)) (fun _ hk => hk.2) (.int .i64 t192)) (fun _ hk => hk.2) (.slice Ao72 t193.length co72)) (fun _ h_ => h_.1)))); (case side2 => exact (Kd.R_reads' HO190.out).2.1); (case side3 => refine (Kd.R_reads' (e := 3) (base := w.heap.size) (ok := fun k_ => ((((True ∧ some k_ ≠ (v176 : Value).ownBlock) ∧ some k_ ≠ (v180 : Value).ownBlock) ∧ some k_ ≠ (.slice Ao52 t183.length co52 : Value).ownBlock) ∧ some k_ ≠ (.slice Ao62 t188.length co62 : Value).ownBlock)) (n := t193.length) (c := co72) ?_).2.2; exact (by (with_reducible repeat (first | apply Kd.R_alloc | apply Kd.R_drewN | apply Kd.R_drew)); exact (Kd.R_mono (Kd.R_far (p := ⟨gb196, 1, none⟩) (Kd.R_far (p := ⟨gb196, 0, none⟩) (Kd.R_types HO195.out BK196.out (by decide)) (fun _ hk => hk.2) (.int .i64 t192)) (fun _ hk => hk.2) (.slice Ao72 t193.length co72)) (fun _ h_ => h_.1)))); (case side4 => exact (Kd.R_reads' HO195.out).2.1); rintro e w74 ⟨v199, rfl, ho0, hb⟩; refine ⟨_, rfl, ?_⟩; have n0_ := Aside0.mk (Kd.R_elder' (by (with_reducible repeat (first | apply Kd.R_alloc | apply Kd.R_drewN | apply Kd.R_drew)); exact (Kd.R_mono (Kd.R_far (p := ⟨gb196, 1, none⟩) (Kd.R_far (p := ⟨gb196, 0, none⟩) (Kd.R_types HO177.out BK196.out (by decide)) (fun _ hk => hk.2) (.int .i64 t192)) (fun _ hk => hk.2) (.slice Ao72 t193.length co72)) (fun _ h_ => h_.1))) (Kd.R_base ho0) hb); have n1_ := Aside0.mk (Kd.R_elder' (by (with_reducible repeat (first | apply Kd.R_alloc | apply Kd.R_drewN | apply Kd.R_drew)); exact (Kd.R_mono (Kd.R_far (p := ⟨gb196, 1, none⟩) (Kd.R_far (p := ⟨gb196, 0, none⟩) (Kd.R_types HO181.out BK196.out (by decide)) (fun _ hk => hk.2) (.int .i64 t192)) (fun _ hk => hk.2) (.slice Ao72 t193.length co72)) (fun _ h_ => h_.1))) (Kd.R_base ho0) hb); have n2_ := Aside0.mk (Kd.R_elder' (by (with_reducible repeat (first | apply Kd.R_alloc | apply Kd.R_drewN | apply Kd.R_drew)); exact (Kd.R_mono (Kd.R_far (p := ⟨gb196, 1, none⟩) (Kd.R_far (p := ⟨gb196, 0, none⟩) (Kd.R_types HO185.out BK196.out (by decide)) (fun _ hk => hk.2) (.int .i64 t192)) (fun _ hk => hk.2) (.slice Ao72 t193.length co72)) (fun _ h_ => h_.1))) (Kd.R_base ho0) hb); have n3_ := Aside0.mk (Kd.R_elder' (by (with_reducible repeat (first | apply Kd.R_alloc | apply Kd.R_drewN | apply Kd.R_drew)); exact (Kd.R_mono (Kd.R_far (p := ⟨gb196, 1, none⟩) (Kd.R_far (p := ⟨gb196, 0, none⟩) (Kd.R_types HO190.out BK196.out (by decide)) (fun _ hk => hk.2) (.int .i64 t192)) (fun _ hk => hk.2) (.slice Ao72 t193.length co72)) (fun _ h_ => h_.1))) (Kd.R_base ho0) hb); have n4_ := Aside0.mk (Kd.R_elder' (by (with_reducible repeat (first | apply Kd.R_alloc | apply Kd.R_drewN | apply Kd.R_drew)); exact (Kd.R_mono (Kd.R_far (p := ⟨gb196, 1, none⟩) (Kd.R_far (p := ⟨gb196, 0, none⟩) (Kd.R_types HO195.out BK196.out (by decide)) (fun _ hk => hk.2) (.int .i64 t192)) (fun _ hk => hk.2) (.slice Ao72 t193.length co72)) (fun _ h_ => h_.1))) (Kd.R_base ho0) hb); have n5_ := Aside0.mk (Kd.R_lower (Kd.R_new' (Kd.R_new' (Kd.R_new' (Kd.R_new' (Kd.R_new' ho0 (Kd.R_lt (by (with_reducible repeat (first | apply Kd.R_alloc | apply Kd.R_drewN | apply Kd.R_drew)); exact (Kd.R_mono (Kd.R_far (p := ⟨gb196, 1, none⟩) (Kd.R_far (p := ⟨gb196, 0, none⟩) (Kd.R_types HO177.out BK196.out (by decide)) (fun _ hk => hk.2) (.int .i64 t192)) (fun _ hk => hk.2) (.slice Ao72 t193.length co72)) (fun _ h_ => h_.1))))) (Kd.R_lt (by (with_reducible repeat (first | apply Kd.R_alloc | apply Kd.R_drewN | apply Kd.R_drew)); exact (Kd.R_mono (Kd.R_far (p := ⟨gb196, 1, none⟩) (Kd.R_far (p := ⟨gb196, 0, none⟩) (Kd.R_types HO181.out BK196.out (by decide)) (fun _ hk => hk.2) (.int .i64 t192)) (fun _ hk => hk.2) (.slice Ao72 t193.length co72)) (fun _ h_ => h_.1))))) (Kd.R_lt (by (with_reducible repeat (first | apply Kd.R_alloc | apply Kd.R_drewN | apply Kd.R_drew)); exact (Kd.R_mono (Kd.R_far (p := ⟨gb196, 1, none⟩) (Kd.R_far (p := ⟨gb196, 0, none⟩) (Kd.R_types HO185.out BK196.out (by decide)) (fun _ hk => hk.2) (.int .i64 t192)) (fun _ hk => hk.2) (.slice Ao72 t193.length co72)) (fun _ h_ => h_.1))))) (Kd.R_lt (by (with_reducible repeat (first | apply Kd.R_alloc | apply Kd.R_drewN | apply Kd.R_drew)); exact (Kd.R_mono (Kd.R_far (p := ⟨gb196, 1, none⟩) (Kd.R_far (p := ⟨gb196, 0, none⟩) (Kd.R_types HO190.out BK196.out (by decide)) (fun _ hk => hk.2) (.int .i64 t192)) (fun _ hk => hk.2) (.slice Ao72 t193.length co72)) (fun _ h_ => h_.1))))) (Kd.R_lt (by (with_reducible repeat (first | apply Kd.R_alloc | apply Kd.R_drewN | apply Kd.R_drew)); exact (Kd.R_mono (Kd.R_far (p := ⟨gb196, 1, none⟩) (Kd.R_far (p := ⟨gb196, 0, none⟩) (Kd.R_types HO195.out BK196.out (by decide)) (fun _ hk => hk.2) (.int .i64 t192)) (fun _ hk => hk.2) (.slice Ao72 t193.length co72)) (fun _ h_ => h_.1))))) (below_size (by repeat (first | (with_reducible first | exact HB.out | apply below_alloc | apply pw_below_drewN | apply below_drew1 | refine below_set ?_ GE170.out | refine below_set ?_ GE171.out | refine below_set ?_ GE186.out | refine below_set ?_ GE191.out | refine below_set ?_ GE196.out) | exact HB.out)))); have n6_ := Aside0.mk (blk_below (g := gb170) (o := .cells #[.int .i64 a0_0, .slice A0_1 l0_1.length c0_1] 24 (0, 0)) (by refine sqt ?_; refine blk_far ?_ NB170_196.out _; refine sqt ?_; refine blk_far ?_ NB170_196.out _; refine sqt ?_; exact BK170.out) hb); have n7_ := Aside0.mk (blk_below (g := gb171) (o := .cells #[.int .i64 a1_0, .slice A1_1 l1_1.length c1_1] 24 (0, 0)) (by refine sqt ?_; refine blk_far ?_ NB171_196.out _; refine sqt ?_; refine blk_far ?_ NB171_196.out _; refine sqt ?_; exact BK171.out) hb); have n8_ := Aside0.mk (blk_below (g := gb186) (o := .cells #[.int .i64 t182, .slice Ao52 t183.length co52] 29 (0, 0)) (by refine sqt ?_; refine blk_far ?_ NB186_196.out _; refine sqt ?_; refine blk_far ?_ NB186_196.out _; refine sqt ?_; exact BK186.out) hb); have n9_ := Aside0.mk (blk_below (g := gb191) (o := .cells #[.int .i64 t187, .slice Ao62 t188.length co62] 29 (0, 0)) (by refine sqt ?_; refine blk_far ?_ NB191_196.out _; refine sqt ?_; refine blk_far ?_ NB191_196.out _; refine sqt ?_; exact BK191.out) hb); have n10_ := Aside0.mk (blk_below (g := gb196) (o := .cells #[.int .i64 t192, .slice Ao72 t193.length co72] 29 (0, 0)) (by refine sqt ?_; refine blk_put (cs := #[.int .i64 t192, .slice none 0 0]) ?_ 1 _ rfl; refine sqt ?_; refine blk_put (cs := #[.int .i64 0, .slice none 0 0]) ?_ 0 _ rfl; refine sqt ?_; exact BK196.out) hb); have n11_ := sqs HB hb; clear HO177; clear HO181; clear HO185; clear HO190; clear HO195; clear BK170; clear BK171; clear BK186; clear BK191; clear BK196; clear HB; have HO177 := n0_; have HO181 := n1_; have HO185 := n2_; have HO190 := n3_; have HO195 := n4_; have HO200 := n5_; have BK170 := n6_; have BK171 := n7_; have BK186 := n8_; have BK191 := n9_; have BK196 := n10_; have HB := n11_; clear n0_ n1_ n2_ n3_ n4_ n5_ n6_ n7_ n8_ n9_ n10_ n11_; (try clear hb); (try clear hb2); (try clear hk); (try clear hi); (try clear ho0)) | ((with_reducible refine gate_dst (N := 9) rfl ?_); refine sqx 9 #[.int .i64 0, .slice none 0 0] 29 ?_; intro gb201 hg w75 hbox hb; have n0_ := Aside0.mk (Kd.R_below (by (with_reducible repeat (first | apply Kd.R_alloc | apply Kd.R_drewN | apply Kd.R_drew)); exact HO177.out) hb); have n1_ := Aside0.mk (Kd.R_below (by (with_reducible repeat (first | apply Kd.R_alloc | apply Kd.R_drewN | apply Kd.R_drew)); exact HO181.out) hb); have n2_ := Aside0.mk (Kd.R_below (by (with_reducible repeat (first | apply Kd.R_alloc | apply Kd.R_drewN | apply Kd.R_drew)); exact HO185.out) hb); have n3_ := Aside0.mk (Kd.R_below (by (with_reducible repeat (first | apply Kd.R_alloc | apply Kd.R_drewN | apply Kd.R_drew)); exact HO190.out) hb); have n4_ := Aside0.mk (Kd.R_below (by (with_reducible repeat (first | apply Kd.R_alloc | apply Kd.R_drewN | apply Kd.R_drew)); exact HO195.out) hb); have n5_ := Aside0.mk (Kd.R_below (by (with_reducible repeat (first | apply Kd.R_alloc | apply Kd.R_drewN | apply Kd.R_drew)); exact HO200.out) hb); have n6_ := sqb BK170 hb; have n7_ := sqb BK171 hb; have n8_ := sqb BK186 hb; have n9_ := sqb BK191 hb; have n10_ := sqb BK196 hb; have n11_ := sqs HB hb; have n12_ := Aside0.mk (hbox); have n13_ := sqg HB hg; have n14_ := sqg HB hg; have n15_ := sqn BK170 hg; have n16_ := sqm BK170 hg; have n17_ := sqn BK171 hg; have n18_ := sqm BK171 hg; have n19_ := sqn BK186 hg; have n20_ := sqm BK186 hg; have n21_ := sqn BK191 hg; have n22_ := sqm BK191 hg; have n23_ := sqn BK196 hg; have n24_ := sqm BK196 hg; clear HO177; clear HO181; clear HO185; clear HO190; clear HO195; clear HO200; clear BK170; clear BK171; clear BK186; clear BK191; clear BK196; clear HB; have HO177 := n0_; have HO181 := n1_; have HO185 := n2_; have HO190 := n3_; have HO195 := n4_; have HO200 := n5_; have BK170 := n6_; have BK171 := n7_; have BK186 := n8_; have BK191 := n9_; have BK196 := n10_; have HB := n11_; have BK201 := n12_; have GW201 := n13_; have GE201 := n14_; have NB170_201 := n15_; have NB201_170 := n16_; have NB171_201 := n17_; have NB201_171 := n18_; have NB186_201 := n19_; have NB201_186 := n20_; have NB191_201 := n21_; have NB201_191 := n22_; have NB196_201 := n23_; have NB201_196 := n24_; clear n0_ n1_ n2_ n3_ n4_ n5_ n6_ n7_ n8_ n9_ n10_ n11_ n12_ n13_ n14_ n15_ n16_ n17_ n18_ n19_ n20_ n21_ n22_ n23_ n24_; clear hb hbox hg; have hnb76 := NB201_170.out; have hnc76 := NB170_201.out; have hnb77 := NB201_171.out; have hnc77 := NB171_201.out; have hnb78 := NB201_186.out; have hnc78 := NB186_201.out; have hnb79 := NB201_191.out; have hnc79 := NB191_201.out; have hnb80 := NB201_196.out; have hnc80 := NB196_201.out; obtain ⟨hcz81_0, hcz81_1, hfz81_0, hfz81_1⟩ := sqc2 BK201; obtain ⟨Ao82, co82, eo82⟩ := Kd.R_slice HO200.out; subst eo82; obtain ⟨hcz83_0, hcz83_1, hfz83_0, hfz83_1⟩ := sqc2 BK186) | ((with_reducible refine gate_callee (f := 19) rfl ?_); refine sqL (some 38) Try.func19 #[.agg #[.int .i64 t197, .slice Ao82 t198.length co82], .agg #[.int .i64 t182, .slice Ao52 t183.length co52]] ?_; (with_reducible refine (laws_eqGaps.calls k t197 _ _ t198 t182 _ _ t183 true _ ?side1 ?side2 ?side3 ?side4 A25.out).mono ?_); (case side1 => refine (Kd.R_reads' (e := 3) (base := w.heap.size) (ok := fun k_ => (((((True ∧ some k_ ≠ (v176 : Value).ownBlock) ∧ some k_ ≠ (v180 : Value).ownBlock) ∧ some k_ ≠ (.slice Ao52 t183.length co52 : Value).ownBlock) ∧ some k_ ≠ (.slice Ao62 t188.length co62 : Value).ownBlock) ∧ some k_ ≠ (.slice Ao72 t193.length co72 : Value).ownBlock)) (n := t198.length) (c := co82) ?_).2.2; exact (by (with_reducible repeat (first | apply Kd.R_alloc | apply Kd.R_drewN | apply Kd.R_drew)); exact (Kd.R_mono (Kd.R_far (p := ⟨gb201, 1, none⟩) (Kd.R_far (p := ⟨gb201, 0, none⟩) (Kd.R_types HO200.out BK201.out (by decide)) (fun _ hk => hk.2) (.int .i64 t197)) (fun _ hk => hk.2) (.slice Ao82 t198.length co82)) (fun _ h_ => h_.1)))); (case side2 => exact (Kd.R_reads' HO200.out).2.1); (case side3 => refine (Kd.R_reads' (e := 3) (base := w.heap.size) (ok := fun k_ => ((((some k_ ≠ (v176 : Value).ownBlock ∧ some k_ ≠ (v180 : Value).ownBlock) ∧ some k_ ≠ (.slice Ao62 t188.length co62 : Value).ownBlock) ∧ some k_ ≠ (.slice Ao72 t193.length co72 : Value).ownBlock) ∧ some k_ ≠ (.slice Ao82 t198.length co82 : Value).ownBlock)) (n := t183.length) (c := co52) ?_).2.2; exact (by (with_reducible repeat (first | apply Kd.R_alloc | apply Kd.R_drewN | apply Kd.R_drew)); exact (Kd.R_mono (Kd.R_far (p := ⟨gb201, 1, none⟩) (Kd.R_far (p := ⟨gb201, 0, none⟩) (Kd.R_types HO185.out BK201.out (by decide)) (fun _ hk => hk.2) (.int .i64 t197)) (fun _ hk => hk.2) (.slice Ao82 t198.length co82)) (fun _ h_ => h_.1)))); (case side4 => exact (Kd.R_reads' HO185.out).2.1); rintro e w84 ⟨rfl, hb⟩; refine ⟨_, rfl, ?_⟩; have n0_ := Aside0.mk (Kd.R_below (by (with_reducible repeat (first | apply Kd.R_alloc | apply Kd.R_drewN | apply Kd.R_drew)); exact (Kd.R_mono (Kd.R_far (p := ⟨gb201, 1, none⟩) (Kd.R_far (p := ⟨gb201, 0, none⟩) (Kd.R_types HO177.out BK201.out (by decide)) (fun _ hk => hk.2) (.int .i64 t197)) (fun _ hk => hk.2) (.slice Ao82 t198.length co82)) (fun _ h_ => h_.1))) hb); have n1_ := Aside0.mk (Kd.R_below (by (with_reducible repeat (first | apply Kd.R_alloc | apply Kd.R_drewN | apply Kd.R_drew)); exact (Kd.R_mono (Kd.R_far (p := ⟨gb201, 1, none⟩) (Kd.R_far (p := ⟨gb201, 0, none⟩) (Kd.R_types HO181.out BK201.out (by decide)) (fun _ hk => hk.2) (.int .i64 t197)) (fun _ hk => hk.2) (.slice Ao82 t198.length co82)) (fun _ h_ => h_.1))) hb); have n2_ := Aside0.mk (Kd.R_below (by (with_reducible repeat (first | apply Kd.R_alloc | apply Kd.R_drewN | apply Kd.R_drew)); exact (Kd.R_mono (Kd.R_far (p := ⟨gb201, 1, none⟩) (Kd.R_far (p := ⟨gb201, 0, none⟩) (Kd.R_types HO185.out BK201.out (by decide)) (fun _ hk => hk.2) (.int .i64 t197)) (fun _ hk => hk.2) (.slice Ao82 t198.length co82)) (fun _ h_ => h_.1))) hb); have n3_ := Aside0.mk (Kd.R_below (by (with_reducible repeat (first | apply Kd.R_alloc | apply Kd.R_drewN | apply Kd.R_drew)); exact (Kd.R_mono (Kd.R_far (p := ⟨gb201, 1, none⟩) (Kd.R_far (p := ⟨gb201, 0, none⟩) (Kd.R_types HO190.out BK201.out (by decide)) (fun _ hk => hk.2) (.int .i64 t197)) (fun _ hk => hk.2) (.slice Ao82 t198.length co82)) (fun _ h_ => h_.1))) hb); have n4_ := Aside0.mk (Kd.R_below (by (with_reducible repeat (first | apply Kd.R_alloc | apply Kd.R_drewN | apply Kd.R_drew)); exact (Kd.R_mono (Kd.R_far (p := ⟨gb201, 1, none⟩) (Kd.R_far (p := ⟨gb201, 0, none⟩) (Kd.R_types HO195.out BK201.out (by decide)) (fun _ hk => hk.2) (.int .i64 t197)) (fun _ hk => hk.2) (.slice Ao82 t198.length co82)) (fun _ h_ => h_.1))) hb); have n5_ := Aside0.mk (Kd.R_below (by (with_reducible repeat (first | apply Kd.R_alloc | apply Kd.R_drewN | apply Kd.R_drew)); exact (Kd.R_mono (Kd.R_far (p := ⟨gb201, 1, none⟩) (Kd.R_far (p := ⟨gb201, 0, none⟩) (Kd.R_types HO200.out BK201.out (by decide)) (fun _ hk => hk.2) (.int .i64 t197)) (fun _ hk => hk.2) (.slice Ao82 t198.length co82)) (fun _ h_ => h_.1))) hb); have n6_ := Aside0.mk (blk_below (g := gb170) (o := .cells #[.int .i64 a0_0, .slice A0_1 l0_1.length c0_1] 24 (0, 0)) (by refine sqt ?_; refine blk_far ?_ NB170_201.out _; refine sqt ?_; refine blk_far ?_ NB170_201.out _; refine sqt ?_; exact BK170.out) hb); have n7_ := Aside0.mk (blk_below (g := gb171) (o := .cells #[.int .i64 a1_0, .slice A1_1 l1_1.length c1_1] 24 (0, 0)) (by refine sqt ?_; refine blk_far ?_ NB171_201.out _; refine sqt ?_; refine blk_far ?_ NB171_201.out _; refine sqt ?_; exact BK171.out) hb); have n8_ := Aside0.mk (blk_below (g := gb186) (o := .cells #[.int .i64 t182, .slice Ao52 t183.length co52] 29 (0, 0)) (by refine sqt ?_; refine blk_far ?_ NB186_201.out _; refine sqt ?_; refine blk_far ?_ NB186_201.out _; refine sqt ?_; exact BK186.out) hb); have n9_ := Aside0.mk (blk_below (g := gb191) (o := .cells #[.int .i64 t187, .slice Ao62 t188.length co62] 29 (0, 0)) (by refine sqt ?_; refine blk_far ?_ NB191_201.out _; refine sqt ?_; refine blk_far ?_ NB191_201.out _; refine sqt ?_; exact BK191.out) hb); have n10_ := Aside0.mk (blk_below (g := gb196) (o := .cells #[.int .i64 t192, .slice Ao72 t193.length co72] 29 (0, 0)) (by refine sqt ?_; refine blk_far ?_ NB196_201.out _; refine sqt ?_; refine blk_far ?_ NB196_201.out _; refine sqt ?_; exact BK196.out) hb); have n11_ := Aside0.mk (blk_below (g := gb201) (o := .cells #[.int .i64 t197, .slice Ao82 t198.length co82] 29 (0, 0)) (by refine sqt ?_; refine blk_put (cs := #[.int .i64 t197, .slice none 0 0]) ?_ 1 _ rfl; refine sqt ?_; refine blk_put (cs := #[.int .i64 0, .slice none 0 0]) ?_ 0 _ rfl; refine sqt ?_; exact BK201.out) hb); have n12_ := sqs HB hb; clear HO177; clear HO181; clear HO185; clear HO190; clear HO195; clear HO200; clear BK170; clear BK171; clear BK186; clear BK191; clear BK196; clear BK201; clear HB; have HO177 := n0_; have HO181 := n1_; have HO185 := n2_; have HO190 := n3_; have HO195 := n4_; have HO200 := n5_; have BK170 := n6_; have BK171 := n7_; have BK186 := n8_; have BK191 := n9_; have BK196 := n10_; have BK201 := n11_; have HB := n12_; clear n0_ n1_ n2_ n3_ n4_ n5_ n6_ n7_ n8_ n9_ n10_ n11_ n12_; (try clear hb); (try clear hb2); (try clear hk); (try clear hi)))
            replace HO177 := Aside0.mk (Kd.R_drew HO177.out)
            replace HO181 := Aside0.mk (Kd.R_drew HO181.out)
            replace HO185 := Aside0.mk (Kd.R_drew HO185.out)
            replace HO190 := Aside0.mk (Kd.R_drew HO190.out)
            replace HO195 := Aside0.mk (Kd.R_drew HO195.out)
            replace HO200 := Aside0.mk (Kd.R_drew HO200.out)
            replace BK170 := Aside0.mk (blk_drew BK170.out)
            replace BK171 := Aside0.mk (blk_drew BK171.out)
            replace BK186 := Aside0.mk (blk_drew BK186.out)
            replace BK191 := Aside0.mk (blk_drew BK191.out)
            replace BK196 := Aside0.mk (blk_drew BK196.out)
            replace BK201 := Aside0.mk (blk_drew BK201.out)
            replace HB := Aside0.mk (below_drew1 HB.out)
            refine start_ (n := 5) (S := fun w' => w'.cell? ⟨gb191, 0, none⟩ = some (.int .i64 t187) ∧ w'.cell? ⟨gb191, 1, none⟩ = some (.slice Ao62 t188.length co62) ∧ w'.cell? ⟨gb170, 0, none⟩ = some (.int .i64 a0_0) ∧ w'.cell? ⟨gb170, 1, none⟩ = some (.slice A0_1 l0_1.length c0_1)) (ds := []) #[false, false, false, false, false] (by kernel_rfl) rfl rfl ⟨(blk_cell BK191.out 0).trans rfl, (blk_cell BK191.out 1).trans rfl, (blk_cell BK170.out 0).trans rfl, (blk_cell BK170.out 1).trans rfl⟩ (fun hHeld => ?_)
            generalize w84.drew = w85 at HO177 HO181 HO185 HO190 HO195 HO200 BK170 BK171 BK186 BK191 BK196 BK201 HB hHeld ⊢
            refine take_ (i := 0) (N := some 40) (v := ?_) (a' := ?_) #[true, false, false, false, false] rfl rfl (by kernel_rfl) (fun _ _ _ h => h) (Or.inl ⟨by rfl, ?_⟩) hHeld ?_ ?_
            rotate_left
            · rintro w' ⟨s0, s1, s2, s3⟩
              go_simp
              with_reducible rfl
            rotate_left
            · simp only [Act.put, List.setIfInBounds_toArray, List.set_cons_zero, List.set_cons_succ, i64_w, i32_w]
              rfl
            refine take_ (i := 1) (N := some 41) (v := ?_) (a' := ?_) #[true, true, false, false, false] rfl rfl (by kernel_rfl) (fun _ _ _ h => h) (Or.inl ⟨by rfl, ?_⟩) hHeld ?_ ?_
            rotate_left
            · rintro w' ⟨s0, s1, s2, s3⟩
              go_simp
              with_reducible rfl
            rotate_left
            · simp only [Act.put, List.setIfInBounds_toArray, List.set_cons_zero, List.set_cons_succ, i64_w, i32_w]
              rfl
            refine one_ (i := 2) (N := some 42) #[true, true, true, false, false] rfl rfl (by kernel_rfl) (by decide) (fun K hK => ?_)
            refine sqG Try.func16 #[.agg #[.int .i64 a0_0, .slice A0_1 l0_1.length c0_1]] ?_
            with_reducible refine (laws_toGaps.calls k a0_0 _ _ l0_1 t203 t204 _ ?side1 ?side2 A27.out).mono ?_
            (case side1 => repeat (first | exact (Kd.C_below HR0_1.out HB.out) | (with_reducible refine Kd.C_alloc ?_ _) | (with_reducible refine Kd.C_drewN ?_ _) | (with_reducible refine Kd.C_drew ?_)))
            (case side2 => exact HC0_1.out)
            rintro e w86 ⟨v205, rfl, ho0, hb⟩
            refine ⟨_, rfl, ?_⟩
            have n0_ := Aside0.mk (Kd.R_elder' (by (with_reducible repeat (first | apply Kd.R_alloc | apply Kd.R_drewN | apply Kd.R_drew)); exact HO177.out) (Kd.R_base ho0) hb)
            have n1_ := Aside0.mk (Kd.R_elder' (by (with_reducible repeat (first | apply Kd.R_alloc | apply Kd.R_drewN | apply Kd.R_drew)); exact HO181.out) (Kd.R_base ho0) hb)
            have n2_ := Aside0.mk (Kd.R_elder' (by (with_reducible repeat (first | apply Kd.R_alloc | apply Kd.R_drewN | apply Kd.R_drew)); exact HO185.out) (Kd.R_base ho0) hb)
            have n3_ := Aside0.mk (Kd.R_elder' (by (with_reducible repeat (first | apply Kd.R_alloc | apply Kd.R_drewN | apply Kd.R_drew)); exact HO190.out) (Kd.R_base ho0) hb)
            have n4_ := Aside0.mk (Kd.R_elder' (by (with_reducible repeat (first | apply Kd.R_alloc | apply Kd.R_drewN | apply Kd.R_drew)); exact HO195.out) (Kd.R_base ho0) hb)
            have n5_ := Aside0.mk (Kd.R_elder' (by (with_reducible repeat (first | apply Kd.R_alloc | apply Kd.R_drewN | apply Kd.R_drew)); exact HO200.out) (Kd.R_base ho0) hb)
            have n6_ := Aside0.mk (Kd.R_lower (Kd.R_new' (Kd.R_new' (Kd.R_new' (Kd.R_new' (Kd.R_new' (Kd.R_new' ho0 (Kd.R_lt (by (with_reducible repeat (first | apply Kd.R_alloc | apply Kd.R_drewN | apply Kd.R_drew)); exact HO177.out))) (Kd.R_lt (by (with_reducible repeat (first | apply Kd.R_alloc | apply Kd.R_drewN | apply Kd.R_drew)); exact HO181.out))) (Kd.R_lt (by (with_reducible repeat (first | apply Kd.R_alloc | apply Kd.R_drewN | apply Kd.R_drew)); exact HO185.out))) (Kd.R_lt (by (with_reducible repeat (first | apply Kd.R_alloc | apply Kd.R_drewN | apply Kd.R_drew)); exact HO190.out))) (Kd.R_lt (by (with_reducible repeat (first | apply Kd.R_alloc | apply Kd.R_drewN | apply Kd.R_drew)); exact HO195.out))) (Kd.R_lt (by (with_reducible repeat (first | apply Kd.R_alloc | apply Kd.R_drewN | apply Kd.R_drew)); exact HO200.out))) (below_size (by repeat (first | (with_reducible first | exact HB.out | apply below_alloc | apply pw_below_drewN | apply below_drew1 | refine below_set ?_ GE170.out | refine below_set ?_ GE171.out | refine below_set ?_ GE186.out | refine below_set ?_ GE191.out | refine below_set ?_ GE196.out | refine below_set ?_ GE201.out) | exact HB.out))))
            have n7_ := sqb BK170 hb
            have n8_ := sqb BK171 hb
            have n9_ := sqb BK186 hb
            have n10_ := sqb BK191 hb
            have n11_ := sqb BK196 hb
            have n12_ := sqb BK201 hb
            have n13_ := sqs HB hb
            clear HO177
            clear HO181
            clear HO185
            clear HO190
            clear HO195
            clear HO200
            clear BK170
            clear BK171
            clear BK186
            clear BK191
            clear BK196
            clear BK201
            clear HB
            have HO177 := n0_
            have HO181 := n1_
            have HO185 := n2_
            have HO190 := n3_
            have HO195 := n4_
            have HO200 := n5_
            have HO206 := n6_
            have BK170 := n7_
            have BK171 := n8_
            have BK186 := n9_
            have BK191 := n10_
            have BK196 := n11_
            have BK201 := n12_
            have HB := n13_
            clear n0_ n1_ n2_ n3_ n4_ n5_ n6_ n7_ n8_ n9_ n10_ n11_ n12_ n13_
            (try clear hb)
            (try clear hb2)
            (try clear hk)
            (try clear hi)
            (try clear ho0)
            obtain ⟨Ao87, co87, eo87⟩ := Kd.R_slice HO206.out
            (first | subst eo87 | (injection eo87 with f1_ f2_ f3_; have f4_ := f1_.symm; have f5_ := f3_.symm; clear f1_ f2_ f3_; subst f4_; subst f5_))
            refine hK.out _ _ sqz (fun hHeld => ?_)
            clear hK K
            refine sqnm ?_
            refine one_ (i := 3) (N := some 43) #[true, true, true, true, false] rfl rfl (by kernel_rfl) (by decide) (fun K hK => ?_)
            refine sqG Try.func19 #[.agg #[.int .i64 t187, .slice Ao62 t188.length co62], .agg #[.int .i64 t203, .slice Ao87 t204.length co87]] ?_
            with_reducible refine (laws_eqGaps.calls k t187 _ _ t188 t203 _ _ t204 true _ ?side1 ?side2 ?side3 ?side4 A28.out).mono ?_
            (case side1 => repeat (first | exact (Kd.R_reads' HO190.out).2.2 | (with_reducible refine Kd.C_alloc ?_ _) | (with_reducible refine Kd.C_drewN ?_ _) | (with_reducible refine Kd.C_drew ?_)))
            (case side2 => exact (Kd.R_reads' HO190.out).2.1)
            (case side3 => repeat (first | exact (Kd.R_reads' HO206.out).2.2 | (with_reducible refine Kd.C_alloc ?_ _) | (with_reducible refine Kd.C_drewN ?_ _) | (with_reducible refine Kd.C_drew ?_)))
            (case side4 => exact (Kd.R_reads' HO206.out).2.1)
            rintro e w88 ⟨rfl, hb⟩
            refine ⟨_, rfl, ?_⟩
            have n0_ := Aside0.mk (Kd.R_below (by (with_reducible repeat (first | apply Kd.R_alloc | apply Kd.R_drewN | apply Kd.R_drew)); exact HO177.out) hb)
            have n1_ := Aside0.mk (Kd.R_below (by (with_reducible repeat (first | apply Kd.R_alloc | apply Kd.R_drewN | apply Kd.R_drew)); exact HO181.out) hb)
            have n2_ := Aside0.mk (Kd.R_below (by (with_reducible repeat (first | apply Kd.R_alloc | apply Kd.R_drewN | apply Kd.R_drew)); exact HO185.out) hb)
            have n3_ := Aside0.mk (Kd.R_below (by (with_reducible repeat (first | apply Kd.R_alloc | apply Kd.R_drewN | apply Kd.R_drew)); exact HO190.out) hb)
            have n4_ := Aside0.mk (Kd.R_below (by (with_reducible repeat (first | apply Kd.R_alloc | apply Kd.R_drewN | apply Kd.R_drew)); exact HO195.out) hb)
            have n5_ := Aside0.mk (Kd.R_below (by (with_reducible repeat (first | apply Kd.R_alloc | apply Kd.R_drewN | apply Kd.R_drew)); exact HO200.out) hb)
            have n6_ := Aside0.mk (Kd.R_below (by (with_reducible repeat (first | apply Kd.R_alloc | apply Kd.R_drewN | apply Kd.R_drew)); exact HO206.out) hb)
            have n7_ := sqb BK170 hb
            have n8_ := sqb BK171 hb
            have n9_ := sqb BK186 hb
            have n10_ := sqb BK191 hb
            have n11_ := sqb BK196 hb
            have n12_ := sqb BK201 hb
            have n13_ := sqs HB hb
            clear HO177
            clear HO181
            clear HO185
            clear HO190
            clear HO195
            clear HO200
            clear HO206
            clear BK170
            clear BK171
            clear BK186
            clear BK191
            clear BK196
            clear BK201
            clear HB
            have HO177 := n0_
            have HO181 := n1_
            have HO185 := n2_
            have HO190 := n3_
            have HO195 := n4_
            have HO200 := n5_
            have HO206 := n6_
            have BK170 := n7_
            have BK171 := n8_
            have BK186 := n9_
            have BK191 := n10_
            have BK196 := n11_
            have BK201 := n12_
            have HB := n13_
            clear n0_ n1_ n2_ n3_ n4_ n5_ n6_ n7_ n8_ n9_ n10_ n11_ n12_ n13_
            (try clear hb)
            refine hK.out _ _ sqz (fun hHeld => ?_)
            clear hK K
            refine sqnm ?_
            refine pure_ (i := 4) (N := some 44) (v := ?_) (a' := ?_) #[true, true, true, true, true] rfl rfl (by kernel_rfl) (fun _ _ _ h => h) (Or.inl ⟨by rfl, ?_⟩) ?_ ?_
            rotate_left
            · intro w'
              go_simp
              with_reducible rfl
            rotate_left
            · simp only [Act.put, List.setIfInBounds_toArray, List.set_cons_zero, List.set_cons_succ, i64_w, i32_w]
              rfl
            refine done_ (by kernel_rfl) ?_
            try go_wp2
            replace HO177 := Aside0.mk (Kd.R_drew HO177.out)
            replace HO181 := Aside0.mk (Kd.R_drew HO181.out)
            replace HO185 := Aside0.mk (Kd.R_drew HO185.out)
            replace HO190 := Aside0.mk (Kd.R_drew HO190.out)
            replace HO195 := Aside0.mk (Kd.R_drew HO195.out)
            replace HO200 := Aside0.mk (Kd.R_drew HO200.out)
            replace HO206 := Aside0.mk (Kd.R_drew HO206.out)
            replace BK170 := Aside0.mk (blk_drew BK170.out)
            replace BK171 := Aside0.mk (blk_drew BK171.out)
            replace BK186 := Aside0.mk (blk_drew BK186.out)
            replace BK191 := Aside0.mk (blk_drew BK191.out)
            replace BK196 := Aside0.mk (blk_drew BK196.out)
            replace BK201 := Aside0.mk (blk_drew BK201.out)
            replace HB := Aside0.mk (below_drew1 HB.out)
            refine start_ (n := 5) (S := fun w' => w'.cell? ⟨gb196, 0, none⟩ = some (.int .i64 t192) ∧ w'.cell? ⟨gb196, 1, none⟩ = some (.slice Ao72 t193.length co72) ∧ w'.cell? ⟨gb171, 0, none⟩ = some (.int .i64 a1_0) ∧ w'.cell? ⟨gb171, 1, none⟩ = some (.slice A1_1 l1_1.length c1_1)) (ds := []) #[false, false, false, false, false] (by kernel_rfl) rfl rfl ⟨(blk_cell BK196.out 0).trans rfl, (blk_cell BK196.out 1).trans rfl, (blk_cell BK171.out 0).trans rfl, (blk_cell BK171.out 1).trans rfl⟩ (fun hHeld => ?_)
            generalize w88.drew = w89 at HO177 HO181 HO185 HO190 HO195 HO200 HO206 BK170 BK171 BK186 BK191 BK196 BK201 HB hHeld ⊢
            refine take_ (i := 0) (N := some 45) (v := ?_) (a' := ?_) #[true, false, false, false, false] rfl rfl (by kernel_rfl) (fun _ _ _ h => h) (Or.inl ⟨by rfl, ?_⟩) hHeld ?_ ?_
            rotate_left
            · rintro w' ⟨s0, s1, s2, s3⟩
              go_simp
              with_reducible rfl
            rotate_left
            · simp only [Act.put, List.setIfInBounds_toArray, List.set_cons_zero, List.set_cons_succ, i64_w, i32_w]
              rfl
            refine take_ (i := 1) (N := some 46) (v := ?_) (a' := ?_) #[true, true, false, false, false] rfl rfl (by kernel_rfl) (fun _ _ _ h => h) (Or.inl ⟨by rfl, ?_⟩) hHeld ?_ ?_
            rotate_left
            · rintro w' ⟨s0, s1, s2, s3⟩
              go_simp
              with_reducible rfl
            rotate_left
            · simp only [Act.put, List.setIfInBounds_toArray, List.set_cons_zero, List.set_cons_succ, i64_w, i32_w]
              rfl
            refine one_ (i := 2) (N := some 47) #[true, true, true, false, false] rfl rfl (by kernel_rfl) (by decide) (fun K hK => ?_)
            refine sqG Try.func16 #[.agg #[.int .i64 a1_0, .slice A1_1 l1_1.length c1_1]] ?_
            with_reducible refine (laws_toGaps.calls k a1_0 _ _ l1_1 t208 t209 _ ?side1 ?side2 A30.out).mono ?_
            (case side1 => repeat (first | exact (Kd.C_below HR1_1.out HB.out) | (with_reducible refine Kd.C_alloc ?_ _) | (with_reducible refine Kd.C_drewN ?_ _) | (with_reducible refine Kd.C_drew ?_)))
            (case side2 => exact HC1_1.out)
            rintro e w90 ⟨v210, rfl, ho0, hb⟩
            refine ⟨_, rfl, ?_⟩
            have n0_ := Aside0.mk (Kd.R_elder' (by (with_reducible repeat (first | apply Kd.R_alloc | apply Kd.R_drewN | apply Kd.R_drew)); exact HO177.out) (Kd.R_base ho0) hb)
            have n1_ := Aside0.mk (Kd.R_elder' (by (with_reducible repeat (first | apply Kd.R_alloc | apply Kd.R_drewN | apply Kd.R_drew)); exact HO181.out) (Kd.R_base ho0) hb)
            have n2_ := Aside0.mk (Kd.R_elder' (by (with_reducible repeat (first | apply Kd.R_alloc | apply Kd.R_drewN | apply Kd.R_drew)); exact HO185.out) (Kd.R_base ho0) hb)
            have n3_ := Aside0.mk (Kd.R_elder' (by (with_reducible repeat (first | apply Kd.R_alloc | apply Kd.R_drewN | apply Kd.R_drew)); exact HO190.out) (Kd.R_base ho0) hb)
            have n4_ := Aside0.mk (Kd.R_elder' (by (with_reducible repeat (first | apply Kd.R_alloc | apply Kd.R_drewN | apply Kd.R_drew)); exact HO195.out) (Kd.R_base ho0) hb)
            have n5_ := Aside0.mk (Kd.R_elder' (by (with_reducible repeat (first | apply Kd.R_alloc | apply Kd.R_drewN | apply Kd.R_drew)); exact HO200.out) (Kd.R_base ho0) hb)
            have n6_ := Aside0.mk (Kd.R_elder' (by (with_reducible repeat (first | apply Kd.R_alloc | apply Kd.R_drewN | apply Kd.R_drew)); exact HO206.out) (Kd.R_base ho0) hb)
            have n7_ := Aside0.mk (Kd.R_lower (Kd.R_new' (Kd.R_new' (Kd.R_new' (Kd.R_new' (Kd.R_new' (Kd.R_new' (Kd.R_new' ho0 (Kd.R_lt (by (with_reducible repeat (first | apply Kd.R_alloc | apply Kd.R_drewN | apply Kd.R_drew)); exact HO177.out))) (Kd.R_lt (by (with_reducible repeat (first | apply Kd.R_alloc | apply Kd.R_drewN | apply Kd.R_drew)); exact HO181.out))) (Kd.R_lt (by (with_reducible repeat (first | apply Kd.R_alloc | apply Kd.R_drewN | apply Kd.R_drew)); exact HO185.out))) (Kd.R_lt (by (with_reducible repeat (first | apply Kd.R_alloc | apply Kd.R_drewN | apply Kd.R_drew)); exact HO190.out))) (Kd.R_lt (by (with_reducible repeat (first | apply Kd.R_alloc | apply Kd.R_drewN | apply Kd.R_drew)); exact HO195.out))) (Kd.R_lt (by (with_reducible repeat (first | apply Kd.R_alloc | apply Kd.R_drewN | apply Kd.R_drew)); exact HO200.out))) (Kd.R_lt (by (with_reducible repeat (first | apply Kd.R_alloc | apply Kd.R_drewN | apply Kd.R_drew)); exact HO206.out))) (below_size (by repeat (first | (with_reducible first | exact HB.out | apply below_alloc | apply pw_below_drewN | apply below_drew1 | refine below_set ?_ GE170.out | refine below_set ?_ GE171.out | refine below_set ?_ GE186.out | refine below_set ?_ GE191.out | refine below_set ?_ GE196.out | refine below_set ?_ GE201.out) | exact HB.out))))
            have n8_ := sqb BK170 hb
            have n9_ := sqb BK171 hb
            have n10_ := sqb BK186 hb
            have n11_ := sqb BK191 hb
            have n12_ := sqb BK196 hb
            have n13_ := sqb BK201 hb
            have n14_ := sqs HB hb
            clear HO177
            clear HO181
            clear HO185
            clear HO190
            clear HO195
            clear HO200
            clear HO206
            clear BK170
            clear BK171
            clear BK186
            clear BK191
            clear BK196
            clear BK201
            clear HB
            have HO177 := n0_
            have HO181 := n1_
            have HO185 := n2_
            have HO190 := n3_
            have HO195 := n4_
            have HO200 := n5_
            have HO206 := n6_
            have HO211 := n7_
            have BK170 := n8_
            have BK171 := n9_
            have BK186 := n10_
            have BK191 := n11_
            have BK196 := n12_
            have BK201 := n13_
            have HB := n14_
            clear n0_ n1_ n2_ n3_ n4_ n5_ n6_ n7_ n8_ n9_ n10_ n11_ n12_ n13_ n14_
            (try clear hb)
            (try clear hb2)
            (try clear hk)
            (try clear hi)
            (try clear ho0)
            obtain ⟨Ao91, co91, eo91⟩ := Kd.R_slice HO211.out
            (first | subst eo91 | (injection eo91 with f1_ f2_ f3_; have f4_ := f1_.symm; have f5_ := f3_.symm; clear f1_ f2_ f3_; subst f4_; subst f5_))
            refine hK.out _ _ sqz (fun hHeld => ?_)
            clear hK K
            refine sqnm ?_
            refine one_ (i := 3) (N := some 48) #[true, true, true, true, false] rfl rfl (by kernel_rfl) (by decide) (fun K hK => ?_)
            refine sqG Try.func19 #[.agg #[.int .i64 t192, .slice Ao72 t193.length co72], .agg #[.int .i64 t208, .slice Ao91 t209.length co91]] ?_
            with_reducible refine (laws_eqGaps.calls k t192 _ _ t193 t208 _ _ t209 true _ ?side1 ?side2 ?side3 ?side4 A31.out).mono ?_
            (case side1 => repeat (first | exact (Kd.R_reads' HO195.out).2.2 | (with_reducible refine Kd.C_alloc ?_ _) | (with_reducible refine Kd.C_drewN ?_ _) | (with_reducible refine Kd.C_drew ?_)))
            (case side2 => exact (Kd.R_reads' HO195.out).2.1)
            (case side3 => repeat (first | exact (Kd.R_reads' HO211.out).2.2 | (with_reducible refine Kd.C_alloc ?_ _) | (with_reducible refine Kd.C_drewN ?_ _) | (with_reducible refine Kd.C_drew ?_)))
            (case side4 => exact (Kd.R_reads' HO211.out).2.1)
            rintro e w92 ⟨rfl, hb⟩
            refine ⟨_, rfl, ?_⟩
            have n0_ := Aside0.mk (Kd.R_below (by (with_reducible repeat (first | apply Kd.R_alloc | apply Kd.R_drewN | apply Kd.R_drew)); exact HO177.out) hb)
            have n1_ := Aside0.mk (Kd.R_below (by (with_reducible repeat (first | apply Kd.R_alloc | apply Kd.R_drewN | apply Kd.R_drew)); exact HO181.out) hb)
            have n2_ := Aside0.mk (Kd.R_below (by (with_reducible repeat (first | apply Kd.R_alloc | apply Kd.R_drewN | apply Kd.R_drew)); exact HO185.out) hb)
            have n3_ := Aside0.mk (Kd.R_below (by (with_reducible repeat (first | apply Kd.R_alloc | apply Kd.R_drewN | apply Kd.R_drew)); exact HO190.out) hb)
            have n4_ := Aside0.mk (Kd.R_below (by (with_reducible repeat (first | apply Kd.R_alloc | apply Kd.R_drewN | apply Kd.R_drew)); exact HO195.out) hb)
            have n5_ := Aside0.mk (Kd.R_below (by (with_reducible repeat (first | apply Kd.R_alloc | apply Kd.R_drewN | apply Kd.R_drew)); exact HO200.out) hb)
            have n6_ := Aside0.mk (Kd.R_below (by (with_reducible repeat (first | apply Kd.R_alloc | apply Kd.R_drewN | apply Kd.R_drew)); exact HO206.out) hb)
            have n7_ := Aside0.mk (Kd.R_below (by (with_reducible repeat (first | apply Kd.R_alloc | apply Kd.R_drewN | apply Kd.R_drew)); exact HO211.out) hb)
            have n8_ := sqb BK170 hb
            have n9_ := sqb BK171 hb
            have n10_ := sqb BK186 hb
            have n11_ := sqb BK191 hb
            have n12_ := sqb BK196 hb
            have n13_ := sqb BK201 hb
            have n14_ := sqs HB hb
            clear HO177
            clear HO181
            clear HO185
            clear HO190
            clear HO195
            clear HO200
            clear HO206
            clear HO211
            clear BK170
            clear BK171
            clear BK186
            clear BK191
            clear BK196
            clear BK201
            clear HB
            have HO177 := n0_
            have HO181 := n1_
            have HO185 := n2_
            have HO190 := n3_
            have HO195 := n4_
            have HO200 := n5_
            have HO206 := n6_
            have HO211 := n7_
            have BK170 := n8_
            have BK171 := n9_
            have BK186 := n10_
            have BK191 := n11_
            have BK196 := n12_
            have BK201 := n13_
            have HB := n14_
            clear n0_ n1_ n2_ n3_ n4_ n5_ n6_ n7_ n8_ n9_ n10_ n11_ n12_ n13_ n14_
            (try clear hb)
            refine hK.out _ _ sqz (fun hHeld => ?_)
            clear hK K
            refine sqnm ?_
            refine pure_ (i := 4) (N := some 49) (v := ?_) (a' := ?_) #[true, true, true, true, true] rfl rfl (by kernel_rfl) (fun _ _ _ h => h) (Or.inl ⟨by rfl, ?_⟩) ?_ ?_
            rotate_left
            · intro w'
              go_simp
              with_reducible rfl
            rotate_left
            · simp only [Act.put, List.setIfInBounds_toArray, List.set_cons_zero, List.set_cons_succ, i64_w, i32_w]
              rfl
            refine done_ (by kernel_rfl) ?_
            obtain ⟨hcz93_0, hcz93_1, hfz93_0, hfz93_1⟩ := sqc2 BK191
            go_upto_region 21 with (first | ((with_reducible refine gate_callee (f := 22) rfl ?_); refine sqL (some 52) Try.func22 #[.agg #[.int .i64 t187, .slice Ao62 t188.length co62], .int .i64 1] ?_; (with_reducible refine (laws_markGaps.calls k t187 (fun k_ => some k_ = (.slice Ao62 t188.length co62 : Value).ownBlock) (.slice Ao62 t188.length co62) t188 1 t213 t214 w _ ?side1 ?side2 A33.out).mono ?_); (case side1 => repeat (first | (with_reducible first | exact HB.out | apply below_alloc | apply pw_below_drewN | apply below_drew1 | refine below_set ?_ GE170.out | refine below_set ?_ GE171.out | refine below_set ?_ GE186.out | refine below_set ?_ GE191.out | refine below_set ?_ GE196.out | refine below_set ?_ GE201.out) | exact HB.out)); (case side2 => exact Kd.R_tight rfl HO190.out); rintro e w94 ⟨rfl, hy0, hb, hkp⟩; refine ⟨_, rfl, ?_⟩; have n0_ := Aside0.mk (blk_kept (by refine sqt ?_; exact BK170.out) hkp (fun hs_ => (fun e_ => (Kd.R_ne HO190.out BK170.out (by decide)) e_) hs_)); have n1_ := Aside0.mk (blk_kept (by refine sqt ?_; exact BK171.out) hkp (fun hs_ => (fun e_ => (Kd.R_ne HO190.out BK171.out (by decide)) e_) hs_)); have n2_ := Aside0.mk (Kd.R_mono (ok' := fun k_ => some k_ ≠ (v180 : Value).ownBlock ∧ some k_ ≠ (.slice Ao52 t183.length co52 : Value).ownBlock ∧ some k_ ≠ (.slice Ao62 t188.length co62 : Value).ownBlock ∧ some k_ ≠ (.slice Ao72 t193.length co72 : Value).ownBlock ∧ some k_ ≠ (.slice Ao82 t198.length co82 : Value).ownBlock ∧ some k_ ≠ (.slice Ao87 t204.length co87 : Value).ownBlock ∧ some k_ ≠ (.slice Ao91 t209.length co91 : Value).ownBlock) (Kd.R_keptB (HO177.out) hkp (fun k_ hk_ hs_ => (hk_.1.1.1.1.2) hs_)) (fun k_ hk_ => ⟨hk_.1.1.1.1.1.1.1, hk_.1.1.1.1.1.1.2, hk_.1.1.1.1.1.2, hk_.1.1.1.1.2, hk_.1.1.1.2, hk_.1.1.2, hk_.1.2⟩)); have n3_ := Aside0.mk (Kd.R_mono (ok' := fun k_ => some k_ ≠ (v176 : Value).ownBlock ∧ some k_ ≠ (.slice Ao52 t183.length co52 : Value).ownBlock ∧ some k_ ≠ (.slice Ao62 t188.length co62 : Value).ownBlock ∧ some k_ ≠ (.slice Ao72 t193.length co72 : Value).ownBlock ∧ some k_ ≠ (.slice Ao82 t198.length co82 : Value).ownBlock ∧ some k_ ≠ (.slice Ao87 t204.length co87 : Value).ownBlock ∧ some k_ ≠ (.slice Ao91 t209.length co91 : Value).ownBlock) (Kd.R_keptB (HO181.out) hkp (fun k_ hk_ hs_ => (hk_.1.1.1.1.2) hs_)) (fun k_ hk_ => ⟨hk_.1.1.1.1.1.1.1, hk_.1.1.1.1.1.1.2, hk_.1.1.1.1.1.2, hk_.1.1.1.1.2, hk_.1.1.1.2, hk_.1.1.2, hk_.1.2⟩)); have n4_ := Aside0.mk (Kd.R_mono (ok' := fun k_ => some k_ ≠ (v176 : Value).ownBlock ∧ some k_ ≠ (v180 : Value).ownBlock ∧ some k_ ≠ (.slice Ao62 t188.length co62 : Value).ownBlock ∧ some k_ ≠ (.slice Ao72 t193.length co72 : Value).ownBlock ∧ some k_ ≠ (.slice Ao82 t198.length co82 : Value).ownBlock ∧ some k_ ≠ (.slice Ao87 t204.length co87 : Value).ownBlock ∧ some k_ ≠ (.slice Ao91 t209.length co91 : Value).ownBlock) (Kd.R_keptB (HO185.out) hkp (fun k_ hk_ hs_ => (hk_.1.1.1.1.2) hs_)) (fun k_ hk_ => ⟨hk_.1.1.1.1.1.1.1, hk_.1.1.1.1.1.1.2, hk_.1.1.1.1.1.2, hk_.1.1.1.1.2, hk_.1.1.1.2, hk_.1.1.2, hk_.1.2⟩)); have n5_ := Aside0.mk (blk_kept (by refine sqt ?_; exact BK186.out) hkp (fun hs_ => (fun e_ => (Kd.R_ne HO190.out BK186.out (by decide)) e_) hs_)); have n6_ := Aside0.mk (Kd.R_reok rfl hy0 (fun k_ e_ => HO190.out.1 k_ e_)); have n7_ := Aside0.mk (blk_kept (by refine sqt ?_; exact BK191.out) hkp (fun hs_ => (fun e_ => (Kd.R_ne HO190.out BK191.out (by decide)) e_) hs_)); have n8_ := Aside0.mk (Kd.R_mono (ok' := fun k_ => some k_ ≠ (v176 : Value).ownBlock ∧ some k_ ≠ (v180 : Value).ownBlock ∧ some k_ ≠ (.slice Ao52 t183.length co52 : Value).ownBlock ∧ some k_ ≠ (.slice Ao62 t188.length co62 : Value).ownBlock ∧ some k_ ≠ (.slice Ao82 t198.length co82 : Value).ownBlock ∧ some k_ ≠ (.slice Ao87 t204.length co87 : Value).ownBlock ∧ some k_ ≠ (.slice Ao91 t209.length co91 : Value).ownBlock) (Kd.R_keptB (HO195.out) hkp (fun k_ hk_ hs_ => (hk_.1.1.1.2) hs_)) (fun k_ hk_ => ⟨hk_.1.1.1.1.1.1.1.2, hk_.1.1.1.1.1.1.2, hk_.1.1.1.1.1.2, hk_.1.1.1.1.2, hk_.1.1.1.2, hk_.1.1.2, hk_.1.2⟩)); have n9_ := Aside0.mk (blk_kept (by refine sqt ?_; exact BK196.out) hkp (fun hs_ => (fun e_ => (Kd.R_ne HO190.out BK196.out (by decide)) e_) hs_)); have n10_ := Aside0.mk (Kd.R_mono (ok' := fun k_ => some k_ ≠ (v176 : Value).ownBlock ∧ some k_ ≠ (v180 : Value).ownBlock ∧ some k_ ≠ (.slice Ao52 t183.length co52 : Value).ownBlock ∧ some k_ ≠ (.slice Ao62 t188.length co62 : Value).ownBlock ∧ some k_ ≠ (.slice Ao72 t193.length co72 : Value).ownBlock ∧ some k_ ≠ (.slice Ao87 t204.length co87 : Value).ownBlock ∧ some k_ ≠ (.slice Ao91 t209.length co91 : Value).ownBlock) (Kd.R_keptB (HO200.out) hkp (fun k_ hk_ hs_ => (hk_.1.1.1.2) hs_)) (fun k_ hk_ => ⟨hk_.1.1.1.1.1.1.1.2, hk_.1.1.1.1.1.1.2, hk_.1.1.1.1.1.2, hk_.1.1.1.1.2, hk_.1.1.1.2, hk_.1.1.2, hk_.1.2⟩)); have n11_ := Aside0.mk (blk_kept (by refine sqt ?_; exact BK201.out) hkp (fun hs_ => (fun e_ => (Kd.R_ne HO190.out BK201.out (by decide)) e_) hs_)); have n12_ := Aside0.mk (Kd.R_mono (ok' := fun k_ => some k_ ≠ (v176 : Value).ownBlock ∧ some k_ ≠ (v180 : Value).ownBlock ∧ some k_ ≠ (.slice Ao52 t183.length co52 : Value).ownBlock ∧ some k_ ≠ (.slice Ao62 t188.length co62 : Value).ownBlock ∧ some k_ ≠ (.slice Ao72 t193.length co72 : Value).ownBlock ∧ some k_ ≠ (.slice Ao82 t198.length co82 : Value).ownBlock ∧ some k_ ≠ (.slice Ao91 t209.length co91 : Value).ownBlock) (Kd.R_keptB (HO206.out) hkp (fun k_ hk_ hs_ => (hk_.1.1.1.2) hs_)) (fun k_ hk_ => ⟨hk_.1.1.1.1.1.1.1.2, hk_.1.1.1.1.1.1.2, hk_.1.1.1.1.1.2, hk_.1.1.1.1.2, hk_.1.1.1.2, hk_.1.1.2, hk_.1.2⟩)); have n13_ := Aside0.mk (Kd.R_mono (ok' := fun k_ => some k_ ≠ (v176 : Value).ownBlock ∧ some k_ ≠ (v180 : Value).ownBlock ∧ some k_ ≠ (.slice Ao52 t183.length co52 : Value).ownBlock ∧ some k_ ≠ (.slice Ao62 t188.length co62 : Value).ownBlock ∧ some k_ ≠ (.slice Ao72 t193.length co72 : Value).ownBlock ∧ some k_ ≠ (.slice Ao82 t198.length co82 : Value).ownBlock ∧ some k_ ≠ (.slice Ao87 t204.length co87 : Value).ownBlock) (Kd.R_keptB (HO211.out) hkp (fun k_ hk_ hs_ => (hk_.1.1.1.2) hs_)) (fun k_ hk_ => ⟨hk_.1.1.1.1.1.1.1.2, hk_.1.1.1.1.1.1.2, hk_.1.1.1.1.1.2, hk_.1.1.1.1.2, hk_.1.1.1.2, hk_.1.1.2, hk_.1.2⟩)); have n14_ := Aside0.mk (hb); clear BK170; clear BK171; clear HO177; clear HO181; clear HO185; clear BK186; clear HO190; clear BK191; clear HO195; clear BK196; clear HO200; clear BK201; clear HO206; clear HO211; clear HB; have BK170 := n0_; have BK171 := n1_; have HO177 := n2_; have HO181 := n3_; have HO185 := n4_; have BK186 := n5_; have HO190 := n6_; have BK191 := n7_; have HO195 := n8_; have BK196 := n9_; have HO200 := n10_; have BK201 := n11_; have HO206 := n12_; have HO211 := n13_; have HB := n14_; clear n0_ n1_ n2_ n3_ n4_ n5_ n6_ n7_ n8_ n9_ n10_ n11_ n12_ n13_ n14_; (try clear hb); (try clear hkp); (try clear hy0); obtain ⟨hcz95_0, hcz95_1, hfz95_0, hfz95_1⟩ := sqc2 BK196) | ((with_reducible refine gate_callee (f := 22) rfl ?_); refine sqL (some 55) Try.func22 #[.agg #[.int .i64 t192, .slice Ao72 t193.length co72], .int .i64 t213] ?_; (with_reducible refine (laws_markGaps.calls k t192 (fun k_ => some k_ = (.slice Ao72 t193.length co72 : Value).ownBlock) (.slice Ao72 t193.length co72) t193 t213 t215 t216 w _ ?side1 ?side2 A34.out).mono ?_); (case side1 => repeat (first | (with_reducible first | exact HB.out | apply below_alloc | apply pw_below_drewN | apply below_drew1 | refine below_set ?_ GE170.out | refine below_set ?_ GE171.out | refine below_set ?_ GE186.out | refine below_set ?_ GE191.out | refine below_set ?_ GE196.out | refine below_set ?_ GE201.out) | exact HB.out)); (case side2 => exact Kd.R_tight rfl HO195.out); rintro e w96 ⟨rfl, hy0, hb, hkp⟩; refine ⟨_, rfl, ?_⟩; have n0_ := Aside0.mk (blk_kept (by refine sqt ?_; exact BK170.out) hkp (fun hs_ => (fun e_ => (Kd.R_ne HO195.out BK170.out (by decide)) e_) hs_)); have n1_ := Aside0.mk (blk_kept (by refine sqt ?_; exact BK171.out) hkp (fun hs_ => (fun e_ => (Kd.R_ne HO195.out BK171.out (by decide)) e_) hs_)); have n2_ := Aside0.mk (Kd.R_mono (ok' := fun k_ => some k_ ≠ (v180 : Value).ownBlock ∧ some k_ ≠ (.slice Ao52 t183.length co52 : Value).ownBlock ∧ some k_ ≠ (.slice Ao62 t188.length co62 : Value).ownBlock ∧ some k_ ≠ (.slice Ao72 t193.length co72 : Value).ownBlock ∧ some k_ ≠ (.slice Ao82 t198.length co82 : Value).ownBlock ∧ some k_ ≠ (.slice Ao87 t204.length co87 : Value).ownBlock ∧ some k_ ≠ (.slice Ao91 t209.length co91 : Value).ownBlock) (Kd.R_keptB (HO177.out) hkp (fun k_ hk_ hs_ => (hk_.2.2.2.1) hs_)) (fun k_ hk_ => ⟨hk_.1.1, hk_.1.2.1, hk_.1.2.2.1, hk_.1.2.2.2.1, hk_.1.2.2.2.2.1, hk_.1.2.2.2.2.2.1, hk_.1.2.2.2.2.2.2⟩)); have n3_ := Aside0.mk (Kd.R_mono (ok' := fun k_ => some k_ ≠ (v176 : Value).ownBlock ∧ some k_ ≠ (.slice Ao52 t183.length co52 : Value).ownBlock ∧ some k_ ≠ (.slice Ao62 t188.length co62 : Value).ownBlock ∧ some k_ ≠ (.slice Ao72 t193.length co72 : Value).ownBlock ∧ some k_ ≠ (.slice Ao82 t198.length co82 : Value).ownBlock ∧ some k_ ≠ (.slice Ao87 t204.length co87 : Value).ownBlock ∧ some k_ ≠ (.slice Ao91 t209.length co91 : Value).ownBlock) (Kd.R_keptB (HO181.out) hkp (fun k_ hk_ hs_ => (hk_.2.2.2.1) hs_)) (fun k_ hk_ => ⟨hk_.1.1, hk_.1.2.1, hk_.1.2.2.1, hk_.1.2.2.2.1, hk_.1.2.2.2.2.1, hk_.1.2.2.2.2.2.1, hk_.1.2.2.2.2.2.2⟩)); have n4_ := Aside0.mk (Kd.R_mono (ok' := fun k_ => some k_ ≠ (v176 : Value).ownBlock ∧ some k_ ≠ (v180 : Value).ownBlock ∧ some k_ ≠ (.slice Ao62 t188.length co62 : Value).ownBlock ∧ some k_ ≠ (.slice Ao72 t193.length co72 : Value).ownBlock ∧ some k_ ≠ (.slice Ao82 t198.length co82 : Value).ownBlock ∧ some k_ ≠ (.slice Ao87 t204.length co87 : Value).ownBlock ∧ some k_ ≠ (.slice Ao91 t209.length co91 : Value).ownBlock) (Kd.R_keptB (HO185.out) hkp (fun k_ hk_ hs_ => (hk_.2.2.2.1) hs_)) (fun k_ hk_ => ⟨hk_.1.1, hk_.1.2.1, hk_.1.2.2.1, hk_.1.2.2.2.1, hk_.1.2.2.2.2.1, hk_.1.2.2.2.2.2.1, hk_.1.2.2.2.2.2.2⟩)); have n5_ := Aside0.mk (blk_kept (by refine sqt ?_; exact BK186.out) hkp (fun hs_ => (fun e_ => (Kd.R_ne HO195.out BK186.out (by decide)) e_) hs_)); have n6_ := Aside0.mk (Kd.R_mono (ok' := fun k_ => some k_ ≠ (v176 : Value).ownBlock ∧ some k_ ≠ (v180 : Value).ownBlock ∧ some k_ ≠ (.slice Ao52 t183.length co52 : Value).ownBlock ∧ some k_ ≠ (.slice Ao72 t193.length co72 : Value).ownBlock ∧ some k_ ≠ (.slice Ao82 t198.length co82 : Value).ownBlock ∧ some k_ ≠ (.slice Ao87 t204.length co87 : Value).ownBlock ∧ some k_ ≠ (.slice Ao91 t209.length co91 : Value).ownBlock) (Kd.R_keptB (HO190.out) hkp (fun k_ hk_ hs_ => (hk_.1.1.1.2) hs_)) (fun k_ hk_ => ⟨hk_.1.1.1.1.1.1.1.2, hk_.1.1.1.1.1.1.2, hk_.1.1.1.1.1.2, hk_.1.1.1.1.2, hk_.1.1.1.2, hk_.1.1.2, hk_.1.2⟩)); have n7_ := Aside0.mk (blk_kept (by refine sqt ?_; exact BK191.out) hkp (fun hs_ => (fun e_ => (Kd.R_ne HO195.out BK191.out (by decide)) e_) hs_)); have n8_ := Aside0.mk (Kd.R_reok rfl hy0 (fun k_ e_ => HO195.out.1 k_ e_)); have n9_ := Aside0.mk (blk_kept (by refine sqt ?_; exact BK196.out) hkp (fun hs_ => (fun e_ => (Kd.R_ne HO195.out BK196.out (by decide)) e_) hs_)); have n10_ := Aside0.mk (Kd.R_mono (ok' := fun k_ => some k_ ≠ (v176 : Value).ownBlock ∧ some k_ ≠ (v180 : Value).ownBlock ∧ some k_ ≠ (.slice Ao52 t183.length co52 : Value).ownBlock ∧ some k_ ≠ (.slice Ao62 t188.length co62 : Value).ownBlock ∧ some k_ ≠ (.slice Ao72 t193.length co72 : Value).ownBlock ∧ some k_ ≠ (.slice Ao87 t204.length co87 : Value).ownBlock ∧ some k_ ≠ (.slice Ao91 t209.length co91 : Value).ownBlock) (Kd.R_keptB (HO200.out) hkp (fun k_ hk_ hs_ => (hk_.2.2.2.2.1) hs_)) (fun k_ hk_ => ⟨hk_.1.1, hk_.1.2.1, hk_.1.2.2.1, hk_.1.2.2.2.1, hk_.1.2.2.2.2.1, hk_.1.2.2.2.2.2.1, hk_.1.2.2.2.2.2.2⟩)); have n11_ := Aside0.mk (blk_kept (by refine sqt ?_; exact BK201.out) hkp (fun hs_ => (fun e_ => (Kd.R_ne HO195.out BK201.out (by decide)) e_) hs_)); have n12_ := Aside0.mk (Kd.R_mono (ok' := fun k_ => some k_ ≠ (v176 : Value).ownBlock ∧ some k_ ≠ (v180 : Value).ownBlock ∧ some k_ ≠ (.slice Ao52 t183.length co52 : Value).ownBlock ∧ some k_ ≠ (.slice Ao62 t188.length co62 : Value).ownBlock ∧ some k_ ≠ (.slice Ao72 t193.length co72 : Value).ownBlock ∧ some k_ ≠ (.slice Ao82 t198.length co82 : Value).ownBlock ∧ some k_ ≠ (.slice Ao91 t209.length co91 : Value).ownBlock) (Kd.R_keptB (HO206.out) hkp (fun k_ hk_ hs_ => (hk_.2.2.2.2.1) hs_)) (fun k_ hk_ => ⟨hk_.1.1, hk_.1.2.1, hk_.1.2.2.1, hk_.1.2.2.2.1, hk_.1.2.2.2.2.1, hk_.1.2.2.2.2.2.1, hk_.1.2.2.2.2.2.2⟩)); have n13_ := Aside0.mk (Kd.R_mono (ok' := fun k_ => some k_ ≠ (v176 : Value).ownBlock ∧ some k_ ≠ (v180 : Value).ownBlock ∧ some k_ ≠ (.slice Ao52 t183.length co52 : Value).ownBlock ∧ some k_ ≠ (.slice Ao62 t188.length co62 : Value).ownBlock ∧ some k_ ≠ (.slice Ao72 t193.length co72 : Value).ownBlock ∧ some k_ ≠ (.slice Ao82 t198.length co82 : Value).ownBlock ∧ some k_ ≠ (.slice Ao87 t204.length co87 : Value).ownBlock) (Kd.R_keptB (HO211.out) hkp (fun k_ hk_ hs_ => (hk_.2.2.2.2.1) hs_)) (fun k_ hk_ => ⟨hk_.1.1, hk_.1.2.1, hk_.1.2.2.1, hk_.1.2.2.2.1, hk_.1.2.2.2.2.1, hk_.1.2.2.2.2.2.1, hk_.1.2.2.2.2.2.2⟩)); have n14_ := Aside0.mk (hb); clear BK170; clear BK171; clear HO177; clear HO181; clear HO185; clear BK186; clear HO190; clear BK191; clear HO195; clear BK196; clear HO200; clear BK201; clear HO206; clear HO211; clear HB; have BK170 := n0_; have BK171 := n1_; have HO177 := n2_; have HO181 := n3_; have HO185 := n4_; have BK186 := n5_; have HO190 := n6_; have BK191 := n7_; have HO195 := n8_; have BK196 := n9_; have HO200 := n10_; have BK201 := n11_; have HO206 := n12_; have HO211 := n13_; have HB := n14_; clear n0_ n1_ n2_ n3_ n4_ n5_ n6_ n7_ n8_ n9_ n10_ n11_ n12_ n13_ n14_; (try clear hb); (try clear hkp); (try clear hy0)))
            (try simp only [Act.put, List.setIfInBounds_toArray, List.set_cons_zero, List.set_cons_succ])
            go_cut [63] (fun v63 wc => ∃ (kq : Nat) (x63_34 : Bool), v63 = .bool x63_34 ∧ Aside0 (laws_FnExactGapsJoin.j0 kq x63_34 a0_0 l0_1 a1_0 l1_1 t182 t183 t197 t198 = some true) ∧ Aside0 (kq ≤ k) ∧ Aside0 (Kd.R (Kd.int .i64) 3 wc w.heap.size (fun k_ => some k_ ≠ ((.slice Ao62 t188.length co62) : Value).ownBlock ∧ some k_ ≠ ((.slice Ao72 t193.length co72) : Value).ownBlock ∧ some k_ ≠ ((.slice Ao82 t198.length co82) : Value).ownBlock) (.slice Ao52 t183.length co52) t183) ∧ Aside0 (Kd.R (Kd.int .i64) 3 wc w.heap.size (fun k_ => some k_ ≠ ((.slice Ao52 t183.length co52) : Value).ownBlock ∧ some k_ ≠ ((.slice Ao72 t193.length co72) : Value).ownBlock ∧ some k_ ≠ ((.slice Ao82 t198.length co82) : Value).ownBlock) (.slice Ao62 t188.length co62) t214) ∧ Aside0 (Kd.R (Kd.int .i64) 3 wc w.heap.size (fun k_ => some k_ ≠ ((.slice Ao52 t183.length co52) : Value).ownBlock ∧ some k_ ≠ ((.slice Ao62 t188.length co62) : Value).ownBlock ∧ some k_ ≠ ((.slice Ao82 t198.length co82) : Value).ownBlock) (.slice Ao72 t193.length co72) t216) ∧ Aside0 (Kd.R (Kd.int .i64) 3 wc w.heap.size (fun k_ => some k_ ≠ ((.slice Ao52 t183.length co52) : Value).ownBlock ∧ some k_ ≠ ((.slice Ao62 t188.length co62) : Value).ownBlock ∧ some k_ ≠ ((.slice Ao72 t193.length co72) : Value).ownBlock) (.slice Ao82 t198.length co82) t198) ∧ Aside0 (wc.heap[gb170]? = some (.cells #[.int .i64 a0_0, (.slice A0_1 l0_1.length c0_1)] 24 (0, 0))) ∧ Aside0 (wc.heap[gb171]? = some (.cells #[.int .i64 a1_0, (.slice A1_1 l1_1.length c1_1)] 24 (0, 0))) ∧ Aside0 (wc.heap[gb186]? = some (.cells #[.int .i64 t182, (.slice Ao52 t183.length co52)] 29 (0, 0))) ∧ Aside0 (wc.heap[gb191]? = some (.cells #[.int .i64 t187, (.slice Ao62 t188.length co62)] 29 (0, 0))) ∧ Aside0 (wc.heap[gb196]? = some (.cells #[.int .i64 t192, (.slice Ao72 t193.length co72)] 29 (0, 0))) ∧ Aside0 (wc.heap[gb201]? = some (.cells #[.int .i64 t197, (.slice Ao82 t198.length co82)] 29 (0, 0))) ∧ Aside0 (Below w.heap.size w wc))
            case first =>
              as_aux_lemma =>
              have H := HC35.out
              clear HC35
              by_cases c97 : t215 < 0
              · rw [if_pos c97] at H
                have c97b0 : decide (t215 < 0) = true := decide_eq_true c97
                clear c97
                (first | rw [c97b0] | (simp only [i64_w, i32_w]; rw [c97b0]) | skip)
                have H' := Aside0.mk H
                clear H
                go_wp2
                go_meet
                case rel => exact ⟨_, (true), (by first | rfl | (simp; done) | (simp [*]; done)), H', ⟨by first | omega | exact Nat.le_refl _⟩, ⟨by (with_reducible repeat (first | apply Kd.R_alloc | apply Kd.R_drewN | apply Kd.R_drew)); exact Kd.R_mono HO185.out (fun _ hk => ⟨hk.2.2.1, ⟨hk.2.2.2.1, hk.2.2.2.2.1⟩⟩)⟩, ⟨by (with_reducible repeat (first | apply Kd.R_alloc | apply Kd.R_drewN | apply Kd.R_drew)); exact Kd.R_mono HO190.out (fun _ hk => ⟨hk.2.2.1, ⟨hk.2.2.2.1, hk.2.2.2.2.1⟩⟩)⟩, ⟨by (with_reducible repeat (first | apply Kd.R_alloc | apply Kd.R_drewN | apply Kd.R_drew)); exact Kd.R_mono HO195.out (fun _ hk => ⟨hk.2.2.1, ⟨hk.2.2.2.1, hk.2.2.2.2.1⟩⟩)⟩, ⟨by (with_reducible repeat (first | apply Kd.R_alloc | apply Kd.R_drewN | apply Kd.R_drew)); exact Kd.R_mono HO200.out (fun _ hk => ⟨hk.2.2.1, ⟨hk.2.2.2.1, hk.2.2.2.2.1⟩⟩)⟩, sqk BK170, sqk BK171, sqk BK186, sqk BK191, sqk BK196, sqk BK201, sqh HB⟩
              · rw [if_neg c97] at H
                have c97b0 : decide (t215 < 0) = false := decide_eq_false c97
                clear c97
                (first | rw [c97b0] | (simp only [i64_w, i32_w]; rw [c97b0]) | skip)
                replace H := Option.bind_eq_some_iff.mp H
                obtain ⟨t217, A980, H⟩ := H
                replace H : (laws_FnExactGapsJoin.j0 k (!t217) a0_0 l0_1 a1_0 l1_1 t182 t183 t197 t198) = some true := H
                have A98 := Aside0.mk A980
                clear A980
                have H' := Aside0.mk H
                clear H
                have hnb99 := NB201_170.out
                have hnc99 := NB170_201.out
                have hnb100 := NB201_171.out
                have hnc100 := NB171_201.out
                have hnb101 := NB201_186.out
                have hnc101 := NB186_201.out
                have hnb102 := NB201_191.out
                have hnc102 := NB191_201.out
                have hnb103 := NB201_196.out
                have hnc103 := NB196_201.out
                obtain ⟨hcz104_0, hcz104_1, hfz104_0, hfz104_1⟩ := sqc2 BK201
                have hnb105 := NB186_170.out
                have hnc105 := NB170_186.out
                have hnb106 := NB186_171.out
                have hnc106 := NB171_186.out
                have hnb107 := NB186_191.out
                have hnc107 := NB191_186.out
                have hnb108 := NB186_196.out
                have hnc108 := NB196_186.out
                obtain ⟨hcz109_0, hcz109_1, hfz109_0, hfz109_1⟩ := sqc2 BK186
                go_wp2_with (first | (go_at_call 19; (with_reducible refine (laws_eqGaps.calls k t197 _ _ t198 t182 _ _ t183 t217 _ ?side1 ?side2 ?side3 ?side4 A98.out).mono ?_); (case side1 => repeat (first | exact (Kd.R_reads' HO200.out).2.2 | (with_reducible refine Kd.C_alloc ?_ _) | (with_reducible refine Kd.C_drewN ?_ _) | (with_reducible refine Kd.C_drew ?_))); (case side2 => exact (Kd.R_reads' HO200.out).2.1); (case side3 => repeat (first | exact (Kd.R_reads' HO185.out).2.2 | (with_reducible refine Kd.C_alloc ?_ _) | (with_reducible refine Kd.C_drewN ?_ _) | (with_reducible refine Kd.C_drew ?_))); (case side4 => exact (Kd.R_reads' HO185.out).2.1); rintro e w110 ⟨rfl, hb⟩; have n0_ := Aside0.mk (Kd.R_below (by (with_reducible repeat (first | apply Kd.R_alloc | apply Kd.R_drewN | apply Kd.R_drew)); exact HO177.out) hb); have n1_ := Aside0.mk (Kd.R_below (by (with_reducible repeat (first | apply Kd.R_alloc | apply Kd.R_drewN | apply Kd.R_drew)); exact HO181.out) hb); have n2_ := Aside0.mk (Kd.R_below (by (with_reducible repeat (first | apply Kd.R_alloc | apply Kd.R_drewN | apply Kd.R_drew)); exact HO185.out) hb); have n3_ := Aside0.mk (Kd.R_below (by (with_reducible repeat (first | apply Kd.R_alloc | apply Kd.R_drewN | apply Kd.R_drew)); exact HO190.out) hb); have n4_ := Aside0.mk (Kd.R_below (by (with_reducible repeat (first | apply Kd.R_alloc | apply Kd.R_drewN | apply Kd.R_drew)); exact HO195.out) hb); have n5_ := Aside0.mk (Kd.R_below (by (with_reducible repeat (first | apply Kd.R_alloc | apply Kd.R_drewN | apply Kd.R_drew)); exact HO200.out) hb); have n6_ := Aside0.mk (Kd.R_below (by (with_reducible repeat (first | apply Kd.R_alloc | apply Kd.R_drewN | apply Kd.R_drew)); exact HO206.out) hb); have n7_ := Aside0.mk (Kd.R_below (by (with_reducible repeat (first | apply Kd.R_alloc | apply Kd.R_drewN | apply Kd.R_drew)); exact HO211.out) hb); have n8_ := sqb BK170 hb; have n9_ := sqb BK171 hb; have n10_ := sqb BK186 hb; have n11_ := sqb BK191 hb; have n12_ := sqb BK196 hb; have n13_ := sqb BK201 hb; have n14_ := sqs HB hb; clear HO177; clear HO181; clear HO185; clear HO190; clear HO195; clear HO200; clear HO206; clear HO211; clear BK170; clear BK171; clear BK186; clear BK191; clear BK196; clear BK201; clear HB; have HO177 := n0_; have HO181 := n1_; have HO185 := n2_; have HO190 := n3_; have HO195 := n4_; have HO200 := n5_; have HO206 := n6_; have HO211 := n7_; have BK170 := n8_; have BK171 := n9_; have BK186 := n10_; have BK191 := n11_; have BK196 := n12_; have BK201 := n13_; have HB := n14_; clear n0_ n1_ n2_ n3_ n4_ n5_ n6_ n7_ n8_ n9_ n10_ n11_ n12_ n13_ n14_; (try clear hb)))
                go_meet
                case rel => exact ⟨_, (!t217), (by first | rfl | (simp; done) | (simp [*]; done)), H', ⟨by first | omega | exact Nat.le_refl _⟩, ⟨by (with_reducible repeat (first | apply Kd.R_alloc | apply Kd.R_drewN | apply Kd.R_drew)); exact Kd.R_mono HO185.out (fun _ hk => ⟨hk.2.2.1, ⟨hk.2.2.2.1, hk.2.2.2.2.1⟩⟩)⟩, ⟨by (with_reducible repeat (first | apply Kd.R_alloc | apply Kd.R_drewN | apply Kd.R_drew)); exact Kd.R_mono HO190.out (fun _ hk => ⟨hk.2.2.1, ⟨hk.2.2.2.1, hk.2.2.2.2.1⟩⟩)⟩, ⟨by (with_reducible repeat (first | apply Kd.R_alloc | apply Kd.R_drewN | apply Kd.R_drew)); exact Kd.R_mono HO195.out (fun _ hk => ⟨hk.2.2.1, ⟨hk.2.2.2.1, hk.2.2.2.2.1⟩⟩)⟩, ⟨by (with_reducible repeat (first | apply Kd.R_alloc | apply Kd.R_drewN | apply Kd.R_drew)); exact Kd.R_mono HO200.out (fun _ hk => ⟨hk.2.2.1, ⟨hk.2.2.2.1, hk.2.2.2.2.1⟩⟩)⟩, sqk BK170, sqk BK171, sqk BK186, sqk BK191, sqk BK196, sqk BK201, sqh HB⟩
            case rest =>
              as_aux_lemma =>
              clear HC35
              try clear hcz55_0
              try clear hcz55_1
              try clear hcz61_0
              try clear hcz61_1
              try clear hcz64_0
              try clear hcz64_1
              try clear hcz71_0
              try clear hcz71_1
              try clear hcz73_0
              try clear hcz73_1
              try clear hcz81_0
              try clear hcz81_1
              try clear hcz83_0
              try clear hcz83_1
              try clear hcz93_0
              try clear hcz93_1
              try clear hcz95_0
              try clear hcz95_1
              try clear hfz55_0
              try clear hfz55_1
              try clear hfz61_0
              try clear hfz61_1
              try clear hfz64_0
              try clear hfz64_1
              try clear hfz71_0
              try clear hfz71_1
              try clear hfz73_0
              try clear hfz73_1
              try clear hfz81_0
              try clear hfz81_1
              try clear hfz83_0
              try clear hfz83_1
              try clear hfz93_0
              try clear hfz93_1
              try clear hfz95_0
              try clear hfz95_1
              obtain ⟨kq, x63_34, rfl, HA, HJ34, HO_187001, HO_192001, HO_197001, HO_202001, BK170, BK171, BK186, BK191, BK196, BK201, HB⟩ := hcut
              have hl192001_34 := (Kd.R_reads' HO_192001.out).1
              rw [hl192001_34] at HO_192001
              (try simp only [hl192001_34])
              (try simp only [hl192001_34] at BK170)
              (try simp only [hl192001_34] at BK171)
              (try simp only [hl192001_34] at BK186)
              (try simp only [hl192001_34] at BK191)
              (try simp only [hl192001_34] at BK196)
              (try simp only [hl192001_34] at BK201)
              (try simp only [hl192001_34] at HO_187001)
              (try simp only [hl192001_34] at HO_197001)
              (try simp only [hl192001_34] at HO_202001)
              have hl197001_34 := (Kd.R_reads' HO_197001.out).1
              rw [hl197001_34] at HO_197001
              (try simp only [hl197001_34])
              (try simp only [hl197001_34] at BK170)
              (try simp only [hl197001_34] at BK171)
              (try simp only [hl197001_34] at BK186)
              (try simp only [hl197001_34] at BK191)
              (try simp only [hl197001_34] at BK196)
              (try simp only [hl197001_34] at BK201)
              (try simp only [hl197001_34] at HO_187001)
              (try simp only [hl197001_34] at HO_192001)
              (try simp only [hl197001_34] at HO_202001)
              cases kq with
              | zero => exact absurd HA.out (by simp [laws_FnExactGapsJoin.j0])
              | succ kj34 =>
                have H := HA.out
                clear HA
                simp only [laws_FnExactGapsJoin.j0] at H
                by_cases c111 : x63_34 = true
                · subst c111
                  have H1 : (some false) = some true := by rw [if_pos rfl] at H; exact H
                  clear H
                  have H := H1
                  clear H1
                  exact absurd (Option.some.inj H) (by decide)
                · replace c111 := Bool.eq_false_iff.mpr c111
                  subst c111
                  have H1 : ((laws_markGaps.f kj34 t197 t198 1).bind fun bt218 => ((laws_heldGaps.f kj34 t197 bt218.2 1).bind fun t220 => (if t220 < 0 then (some false) else (if t220 = bt218.1 then ((laws_toGaps.f kj34 a0_0 l0_1).bind fun bt221 => ((laws_toGaps.f kj34 a1_0 l1_1).bind fun bt225 => ((impl_GapsJoin.f kj34 bt221.1 bt221.2 bt225.1 bt225.2).bind fun bt229 => ((laws_eqGaps.f kj34 bt229.1 bt229.2 t182 t183).bind fun t234 => (if t234 = true then ((laws_heldGaps.f kj34 t197 bt218.2 1).bind fun t235 => (if t235 < 0 then (some false) else (if t235 = bt218.1 then (some true) else (some false)))) else (some false)))))) else (some false))))) = some true := by rw [if_neg (show ¬ (false = true) by decide)] at H; exact H
                  clear H
                  have H := H1
                  clear H1
                  replace H := Option.bind_eq_some_iff.mp H
                  obtain ⟨⟨t218, t219⟩, A1120, H⟩ := H
                  replace H : ((laws_heldGaps.f kj34 t197 t219 1).bind fun t220 => (if t220 < 0 then (some false) else (if t220 = t218 then ((laws_toGaps.f kj34 a0_0 l0_1).bind fun bt221 => ((laws_toGaps.f kj34 a1_0 l1_1).bind fun bt225 => ((impl_GapsJoin.f kj34 bt221.1 bt221.2 bt225.1 bt225.2).bind fun bt229 => ((laws_eqGaps.f kj34 bt229.1 bt229.2 t182 t183).bind fun t234 => (if t234 = true then ((laws_heldGaps.f kj34 t197 t219 1).bind fun t235 => (if t235 < 0 then (some false) else (if t235 = t218 then (some true) else (some false)))) else (some false)))))) else (some false)))) = some true := H
                  have A112 := Aside0.mk A1120
                  clear A1120
                  replace H := Option.bind_eq_some_iff.mp H
                  obtain ⟨t220, A1130, H⟩ := H
                  replace H : (if t220 < 0 then (some false) else (if t220 = t218 then ((laws_toGaps.f kj34 a0_0 l0_1).bind fun bt221 => ((laws_toGaps.f kj34 a1_0 l1_1).bind fun bt225 => ((impl_GapsJoin.f kj34 bt221.1 bt221.2 bt225.1 bt225.2).bind fun bt229 => ((laws_eqGaps.f kj34 bt229.1 bt229.2 t182 t183).bind fun t234 => (if t234 = true then ((laws_heldGaps.f kj34 t197 t219 1).bind fun t235 => (if t235 < 0 then (some false) else (if t235 = t218 then (some true) else (some false)))) else (some false)))))) else (some false))) = some true := H
                  have A113 := Aside0.mk A1130
                  clear A1130
                  by_cases c114 : t220 < 0
                  · rw [if_pos c114] at H
                    have c114b0 : decide (t220 < 0) = true := decide_eq_true c114
                    clear c114
                    exact absurd (Option.some.inj H) (by decide)
                  · rw [if_neg c114] at H
                    have c114b0 : decide (t220 < 0) = false := decide_eq_false c114
                    clear c114
                    by_cases c124 : t220 = t218
                    · rw [if_pos c124] at H
                      have c124b0 : (t220 == t218) = true := beq_iff_eq.mpr c124
                      have c124b1 : (t220 != t218) = false := bne_eq_false_iff_eq.mpr c124
                      clear c124
                      replace H := Option.bind_eq_some_iff.mp H
                      obtain ⟨⟨t221, t222⟩, A1250, H⟩ := H
                      replace H : ((laws_toGaps.f kj34 a1_0 l1_1).bind fun bt225 => ((impl_GapsJoin.f kj34 t221 t222 bt225.1 bt225.2).bind fun bt229 => ((laws_eqGaps.f kj34 bt229.1 bt229.2 t182 t183).bind fun t234 => (if t234 = true then ((laws_heldGaps.f kj34 t197 t219 1).bind fun t235 => (if t235 < 0 then (some false) else (if t235 = t218 then (some true) else (some false)))) else (some false))))) = some true := H
                      have A125 := Aside0.mk A1250
                      clear A1250
                      replace H := Option.bind_eq_some_iff.mp H
                      obtain ⟨⟨t225, t226⟩, A1260, H⟩ := H
                      replace H : ((impl_GapsJoin.f kj34 t221 t222 t225 t226).bind fun bt229 => ((laws_eqGaps.f kj34 bt229.1 bt229.2 t182 t183).bind fun t234 => (if t234 = true then ((laws_heldGaps.f kj34 t197 t219 1).bind fun t235 => (if t235 < 0 then (some false) else (if t235 = t218 then (some true) else (some false)))) else (some false)))) = some true := H
                      have A126 := Aside0.mk A1260
                      clear A1260
                      replace H := Option.bind_eq_some_iff.mp H
                      obtain ⟨⟨t229, t230⟩, A1270, H⟩ := H
                      replace H : ((laws_eqGaps.f kj34 t229 t230 t182 t183).bind fun t234 => (if t234 = true then ((laws_heldGaps.f kj34 t197 t219 1).bind fun t235 => (if t235 < 0 then (some false) else (if t235 = t218 then (some true) else (some false)))) else (some false))) = some true := H
                      have A127 := Aside0.mk A1270
                      clear A1270
                      replace H := Option.bind_eq_some_iff.mp H
                      obtain ⟨t234, A1280, H⟩ := H
                      replace H : (if t234 = true then ((laws_heldGaps.f kj34 t197 t219 1).bind fun t235 => (if t235 < 0 then (some false) else (if t235 = t218 then (some true) else (some false)))) else (some false)) = some true := H
                      have A128 := Aside0.mk A1280
                      clear A1280
                      by_cases c129 : t234 = true
                      · subst c129
                        have H1 : ((laws_heldGaps.f kj34 t197 t219 1).bind fun t235 => (if t235 < 0 then (some false) else (if t235 = t218 then (some true) else (some false)))) = some true := by rw [if_pos rfl] at H; exact H
                        clear H
                        have H := H1
                        clear H1
                        replace H := Option.bind_eq_some_iff.mp H
                        obtain ⟨t235, A1300, H⟩ := H
                        replace H : (if t235 < 0 then (some false) else (if t235 = t218 then (some true) else (some false))) = some true := H
                        have A130 := Aside0.mk A1300
                        clear A1300
                        by_cases c131 : t235 < 0
                        · rw [if_pos c131] at H
                          have c131b0 : decide (t235 < 0) = true := decide_eq_true c131
                          clear c131
                          exact absurd (Option.some.inj H) (by decide)
                        · rw [if_neg c131] at H
                          have c131b0 : decide (t235 < 0) = false := decide_eq_false c131
                          clear c131
                          by_cases c167 : t235 = t218
                          · rw [if_pos c167] at H
                            have c167b0 : (t235 == t218) = true := beq_iff_eq.mpr c167
                            have c167b1 : (t235 != t218) = false := bne_eq_false_iff_eq.mpr c167
                            clear c167
                            clear H
                            have hnb168 := NB201_170.out
                            have hnc168 := NB170_201.out
                            have hnb169 := NB201_171.out
                            have hnc169 := NB171_201.out
                            have hnb170 := NB201_186.out
                            have hnc170 := NB186_201.out
                            have hnb171 := NB201_191.out
                            have hnc171 := NB191_201.out
                            have hnb172 := NB201_196.out
                            have hnc172 := NB196_201.out
                            obtain ⟨hcz173_0, hcz173_1, hfz173_0, hfz173_1⟩ := sqc2 BK201
                            try go_wp2_with (first | ((with_reducible refine gate_callee (f := 22) rfl ?_); refine sqL (some 66) Try.func22 #[.agg #[.int .i64 t197, .slice Ao82 t198.length co82], .int .i64 1] ?_; (with_reducible refine (laws_markGaps.calls kj34 t197 (fun k_ => some k_ = (.slice Ao82 t198.length co82 : Value).ownBlock) (.slice Ao82 t198.length co82) t198 1 t218 t219 w _ ?side1 ?side2 A112.out).mono ?_); (case side1 => repeat (first | (with_reducible first | exact HB.out | apply below_alloc | apply pw_below_drewN | apply below_drew1 | refine below_set ?_ GE170.out | refine below_set ?_ GE171.out | refine below_set ?_ GE186.out | refine below_set ?_ GE191.out | refine below_set ?_ GE196.out | refine below_set ?_ GE201.out) | exact HB.out)); (case side2 => exact Kd.R_tight rfl HO_202001.out); rintro e w174 ⟨rfl, hy0, hb, hkp⟩; refine ⟨_, rfl, ?_⟩; have n0_ := Aside0.mk (Kd.R_mono (ok' := fun k_ => some k_ ≠ (.slice Ao62 t214.length co62 : Value).ownBlock ∧ some k_ ≠ (.slice Ao72 t216.length co72 : Value).ownBlock ∧ some k_ ≠ (.slice Ao82 t198.length co82 : Value).ownBlock) (Kd.R_keptB (HO_187001.out) hkp (fun k_ hk_ hs_ => (hk_.2.2) hs_)) (fun k_ hk_ => ⟨hk_.1.1, hk_.1.2.1, hk_.1.2.2⟩)); have n1_ := Aside0.mk (Kd.R_mono (ok' := fun k_ => some k_ ≠ (.slice Ao52 t183.length co52 : Value).ownBlock ∧ some k_ ≠ (.slice Ao72 t216.length co72 : Value).ownBlock ∧ some k_ ≠ (.slice Ao82 t198.length co82 : Value).ownBlock) (Kd.R_keptB (HO_192001.out) hkp (fun k_ hk_ hs_ => (hk_.2.2) hs_)) (fun k_ hk_ => ⟨hk_.1.1, hk_.1.2.1, hk_.1.2.2⟩)); have n2_ := Aside0.mk (Kd.R_mono (ok' := fun k_ => some k_ ≠ (.slice Ao52 t183.length co52 : Value).ownBlock ∧ some k_ ≠ (.slice Ao62 t214.length co62 : Value).ownBlock ∧ some k_ ≠ (.slice Ao82 t198.length co82 : Value).ownBlock) (Kd.R_keptB (HO_197001.out) hkp (fun k_ hk_ hs_ => (hk_.2.2) hs_)) (fun k_ hk_ => ⟨hk_.1.1, hk_.1.2.1, hk_.1.2.2⟩)); have n3_ := Aside0.mk (Kd.R_reok rfl hy0 (fun k_ e_ => HO_202001.out.1 k_ e_)); have n4_ := Aside0.mk (blk_kept (by refine sqt ?_; exact BK170.out) hkp (fun hs_ => (fun e_ => (Kd.R_ne HO_202001.out BK170.out (by decide)) e_) hs_)); have n5_ := Aside0.mk (blk_kept (by refine sqt ?_; exact BK171.out) hkp (fun hs_ => (fun e_ => (Kd.R_ne HO_202001.out BK171.out (by decide)) e_) hs_)); have n6_ := Aside0.mk (blk_kept (by refine sqt ?_; exact BK186.out) hkp (fun hs_ => (fun e_ => (Kd.R_ne HO_202001.out BK186.out (by decide)) e_) hs_)); have n7_ := Aside0.mk (blk_kept (by refine sqt ?_; exact BK191.out) hkp (fun hs_ => (fun e_ => (Kd.R_ne HO_202001.out BK191.out (by decide)) e_) hs_)); have n8_ := Aside0.mk (blk_kept (by refine sqt ?_; exact BK196.out) hkp (fun hs_ => (fun e_ => (Kd.R_ne HO_202001.out BK196.out (by decide)) e_) hs_)); have n9_ := Aside0.mk (blk_kept (by refine sqt ?_; exact BK201.out) hkp (fun hs_ => (fun e_ => (Kd.R_ne HO_202001.out BK201.out (by decide)) e_) hs_)); have n10_ := Aside0.mk (hb); clear HO_187001; clear HO_192001; clear HO_197001; clear HO_202001; clear BK170; clear BK171; clear BK186; clear BK191; clear BK196; clear BK201; clear HB; have HO_187001 := n0_; have HO_192001 := n1_; have HO_197001 := n2_; have HO_202001 := n3_; have BK170 := n4_; have BK171 := n5_; have BK186 := n6_; have BK191 := n7_; have BK196 := n8_; have BK201 := n9_; have HB := n10_; clear n0_ n1_ n2_ n3_ n4_ n5_ n6_ n7_ n8_ n9_ n10_; (try clear hb); (try clear hkp); (try clear hy0); obtain ⟨hcz175_0, hcz175_1, hfz175_0, hfz175_1⟩ := sqc2 BK201) | ((with_reducible refine gate_callee (f := 23) rfl ?_); refine goesL_ (some 69) rfl rfl Try.func23 (by kernel_rfl) rfl #[.agg #[.int .i64 t197, .slice Ao82 t219.length co82], .int .i64 1] rfl (by (try simp only [List.map_toArray, List.map_cons, List.map_nil]); first | done | (rw [show t219.length = t198.length from (Kd.R_reads' HO_202001.out).1.symm] <;> rfl) | rfl | (simp only [List.length_drop, List.length_take]; rfl)) ?_; (with_reducible refine (laws_heldGaps.calls kj34 t197 _ _ t219 1 t220 _ ?side1 ?side2 A113.out).mono ?_); (case side1 => repeat (first | exact (Kd.R_reads' HO_202001.out).2.2 | (with_reducible refine Kd.C_alloc ?_ _) | (with_reducible refine Kd.C_drewN ?_ _) | (with_reducible refine Kd.C_drew ?_))); (case side2 => rw [show t219.length = t198.length from (Kd.R_reads' HO_202001.out).1.symm]; exact (Kd.R_reads' HO_202001.out).2.1); rintro e w176 ⟨rfl, hb⟩; refine ⟨_, rfl, ?_⟩; have n0_ := Aside0.mk (Kd.R_below (by (with_reducible repeat (first | apply Kd.R_alloc | apply Kd.R_drewN | apply Kd.R_drew)); exact HO_187001.out) hb); have n1_ := Aside0.mk (Kd.R_below (by (with_reducible repeat (first | apply Kd.R_alloc | apply Kd.R_drewN | apply Kd.R_drew)); exact HO_192001.out) hb); have n2_ := Aside0.mk (Kd.R_below (by (with_reducible repeat (first | apply Kd.R_alloc | apply Kd.R_drewN | apply Kd.R_drew)); exact HO_197001.out) hb); have n3_ := Aside0.mk (Kd.R_below (by (with_reducible repeat (first | apply Kd.R_alloc | apply Kd.R_drewN | apply Kd.R_drew)); exact HO_202001.out) hb); have n4_ := sqb BK170 hb; have n5_ := sqb BK171 hb; have n6_ := sqb BK186 hb; have n7_ := sqb BK191 hb; have n8_ := sqb BK196 hb; have n9_ := sqb BK201 hb; have n10_ := sqs HB hb; clear HO_187001; clear HO_192001; clear HO_197001; clear HO_202001; clear BK170; clear BK171; clear BK186; clear BK191; clear BK196; clear BK201; clear HB; have HO_187001 := n0_; have HO_192001 := n1_; have HO_197001 := n2_; have HO_202001 := n3_; have BK170 := n4_; have BK171 := n5_; have BK186 := n6_; have BK191 := n7_; have BK196 := n8_; have BK201 := n9_; have HB := n10_; clear n0_ n1_ n2_ n3_ n4_ n5_ n6_ n7_ n8_ n9_ n10_; (try clear hb)))
                            replace HO_187001 := Aside0.mk (Kd.R_drew HO_187001.out)
                            replace HO_192001 := Aside0.mk (Kd.R_drew HO_192001.out)
                            replace HO_197001 := Aside0.mk (Kd.R_drew HO_197001.out)
                            replace HO_202001 := Aside0.mk (Kd.R_drew HO_202001.out)
                            replace BK170 := Aside0.mk (blk_drew BK170.out)
                            replace BK171 := Aside0.mk (blk_drew BK171.out)
                            replace BK186 := Aside0.mk (blk_drew BK186.out)
                            replace BK191 := Aside0.mk (blk_drew BK191.out)
                            replace BK196 := Aside0.mk (blk_drew BK196.out)
                            replace BK201 := Aside0.mk (blk_drew BK201.out)
                            replace HB := Aside0.mk (below_drew1 HB.out)
                            refine start_ (n := 7) (S := fun w' => w'.cell? ⟨gb170, 0, none⟩ = some (.int .i64 a0_0) ∧ w'.cell? ⟨gb170, 1, none⟩ = some (.slice A0_1 l0_1.length c0_1) ∧ w'.cell? ⟨gb171, 0, none⟩ = some (.int .i64 a1_0) ∧ w'.cell? ⟨gb171, 1, none⟩ = some (.slice A1_1 l1_1.length c1_1)) (ds := []) #[false, false, false, false, false, false, false] (by kernel_rfl) rfl rfl ⟨(blk_cell BK170.out 0).trans rfl, (blk_cell BK170.out 1).trans rfl, (blk_cell BK171.out 0).trans rfl, (blk_cell BK171.out 1).trans rfl⟩ (fun hHeld => ?_)
                            generalize w176.drew = w177 at HO_187001 HO_192001 HO_197001 HO_202001 BK170 BK171 BK186 BK191 BK196 BK201 HB hHeld ⊢
                            refine take_ (i := 0) (N := some 75) (v := ?_) (a' := ?_) #[true, false, false, false, false, false, false] rfl rfl (by kernel_rfl) (fun _ _ _ h => h) (Or.inl ⟨by rfl, ?_⟩) hHeld ?_ ?_
                            rotate_left
                            · rintro w' ⟨s0, s1, s2, s3⟩
                              go_simp
                              with_reducible rfl
                            rotate_left
                            · simp only [Act.put, List.setIfInBounds_toArray, List.set_cons_zero, List.set_cons_succ, i64_w, i32_w]
                              rfl
                            refine take_ (i := 2) (N := some 77) (v := ?_) (a' := ?_) #[true, false, true, false, false, false, false] rfl rfl (by kernel_rfl) (fun _ _ _ h => h) (Or.inl ⟨by rfl, ?_⟩) hHeld ?_ ?_
                            rotate_left
                            · rintro w' ⟨s0, s1, s2, s3⟩
                              go_simp
                              with_reducible rfl
                            rotate_left
                            · simp only [Act.put, List.setIfInBounds_toArray, List.set_cons_zero, List.set_cons_succ, i64_w, i32_w]
                              rfl
                            refine join_ (σ := Value × Value × Value × Nat) 1 #[true, true, true, true, true, true, false] (fun s_ => [(76, .agg #[.int .i64 t221, s_.1]), (78, .agg #[.int .i64 t225, s_.2.1]), (79, .agg #[.int .i64 t229, s_.2.2.1]), (13, .pointer (some ⟨s_.2.2.2, 0, none⟩))]) (fun s_ w' => (w'.cell? ⟨gb170, 0, none⟩ = some (.int .i64 a0_0) ∧ w'.cell? ⟨gb170, 1, none⟩ = some (.slice A0_1 l0_1.length c0_1) ∧ w'.cell? ⟨gb171, 0, none⟩ = some (.int .i64 a1_0) ∧ w'.cell? ⟨gb171, 1, none⟩ = some (.slice A1_1 l1_1.length c1_1)) ∧ (Kd.R (Kd.int .i64) 3 w' w.heap.size (fun k_ => some k_ ≠ (s_.2.1 : Value).ownBlock ∧ some k_ ≠ (s_.2.2.1 : Value).ownBlock ∧ some k_ ≠ (.slice Ao52 t183.length co52 : Value).ownBlock ∧ some k_ ≠ (.slice Ao62 t214.length co62 : Value).ownBlock ∧ some k_ ≠ (.slice Ao72 t216.length co72 : Value).ownBlock ∧ some k_ ≠ (.slice Ao82 t198.length co82 : Value).ownBlock) s_.1 t222) ∧ (Kd.R (Kd.int .i64) 3 w' w.heap.size (fun k_ => some k_ ≠ (s_.1 : Value).ownBlock ∧ some k_ ≠ (s_.2.2.1 : Value).ownBlock ∧ some k_ ≠ (.slice Ao52 t183.length co52 : Value).ownBlock ∧ some k_ ≠ (.slice Ao62 t214.length co62 : Value).ownBlock ∧ some k_ ≠ (.slice Ao72 t216.length co72 : Value).ownBlock ∧ some k_ ≠ (.slice Ao82 t198.length co82 : Value).ownBlock) s_.2.1 t226) ∧ (Kd.R (Kd.int .i64) 3 w' w.heap.size (fun k_ => some k_ ≠ (s_.1 : Value).ownBlock ∧ some k_ ≠ (s_.2.1 : Value).ownBlock ∧ some k_ ≠ (.slice Ao52 t183.length co52 : Value).ownBlock ∧ some k_ ≠ (.slice Ao62 t214.length co62 : Value).ownBlock ∧ some k_ ≠ (.slice Ao72 t216.length co72 : Value).ownBlock ∧ some k_ ≠ (.slice Ao82 t198.length co82 : Value).ownBlock) s_.2.2.1 t230) ∧ (Kd.R (Kd.int .i64) 3 w' w.heap.size (fun k_ => some k_ ≠ (s_.1 : Value).ownBlock ∧ some k_ ≠ (s_.2.1 : Value).ownBlock ∧ some k_ ≠ (s_.2.2.1 : Value).ownBlock ∧ some k_ ≠ (.slice Ao62 t214.length co62 : Value).ownBlock ∧ some k_ ≠ (.slice Ao72 t216.length co72 : Value).ownBlock ∧ some k_ ≠ (.slice Ao82 t198.length co82 : Value).ownBlock) (.slice Ao52 t183.length co52) t183) ∧ (Kd.R (Kd.int .i64) 3 w' w.heap.size (fun k_ => some k_ ≠ (s_.1 : Value).ownBlock ∧ some k_ ≠ (s_.2.1 : Value).ownBlock ∧ some k_ ≠ (s_.2.2.1 : Value).ownBlock ∧ some k_ ≠ (.slice Ao52 t183.length co52 : Value).ownBlock ∧ some k_ ≠ (.slice Ao72 t216.length co72 : Value).ownBlock ∧ some k_ ≠ (.slice Ao82 t198.length co82 : Value).ownBlock) (.slice Ao62 t214.length co62) t214) ∧ (Kd.R (Kd.int .i64) 3 w' w.heap.size (fun k_ => some k_ ≠ (s_.1 : Value).ownBlock ∧ some k_ ≠ (s_.2.1 : Value).ownBlock ∧ some k_ ≠ (s_.2.2.1 : Value).ownBlock ∧ some k_ ≠ (.slice Ao52 t183.length co52 : Value).ownBlock ∧ some k_ ≠ (.slice Ao62 t214.length co62 : Value).ownBlock ∧ some k_ ≠ (.slice Ao82 t198.length co82 : Value).ownBlock) (.slice Ao72 t216.length co72) t216) ∧ (Kd.R (Kd.int .i64) 3 w' w.heap.size (fun k_ => some k_ ≠ (s_.1 : Value).ownBlock ∧ some k_ ≠ (s_.2.1 : Value).ownBlock ∧ some k_ ≠ (s_.2.2.1 : Value).ownBlock ∧ some k_ ≠ (.slice Ao52 t183.length co52 : Value).ownBlock ∧ some k_ ≠ (.slice Ao62 t214.length co62 : Value).ownBlock ∧ some k_ ≠ (.slice Ao72 t216.length co72 : Value).ownBlock) (.slice Ao82 t198.length co82) t219) ∧ (w'.heap[gb170]? = some (.cells #[.int .i64 a0_0, .slice A0_1 l0_1.length c0_1] 24 (0, 0))) ∧ (w'.heap[gb171]? = some (.cells #[.int .i64 a1_0, .slice A1_1 l1_1.length c1_1] 24 (0, 0))) ∧ (w'.heap[gb186]? = some (.cells #[.int .i64 t182, .slice Ao52 t183.length co52] 29 (0, 0))) ∧ (w'.heap[gb191]? = some (.cells #[.int .i64 t187, .slice Ao62 t214.length co62] 29 (0, 0))) ∧ (w'.heap[gb196]? = some (.cells #[.int .i64 t192, .slice Ao72 t216.length co72] 29 (0, 0))) ∧ (w'.heap[gb201]? = some (.cells #[.int .i64 t197, .slice Ao82 t198.length co82] 29 (0, 0))) ∧ (w'.heap[s_.2.2.2]? = some (.cells #[.int .i64 0, .slice none 0 0] 29 (0, 0))) ∧ (w.heap.size ≤ s_.2.2.2) ∧ (w.heap.size ≤ s_.2.2.2) ∧ (gb170 ≠ s_.2.2.2) ∧ (s_.2.2.2 ≠ gb170) ∧ (gb171 ≠ s_.2.2.2) ∧ (s_.2.2.2 ≠ gb171) ∧ (gb186 ≠ s_.2.2.2) ∧ (s_.2.2.2 ≠ gb186) ∧ (gb191 ≠ s_.2.2.2) ∧ (s_.2.2.2 ≠ gb191) ∧ (gb196 ≠ s_.2.2.2) ∧ (s_.2.2.2 ≠ gb196) ∧ (gb201 ≠ s_.2.2.2) ∧ (s_.2.2.2 ≠ gb201) ∧ (Below w.heap.size w w')) ?_ ?_
                            rotate_left
                            · intro hCont
                              refine two_ (i := 1) (j := 5) (Ni := some 76) (Nj := some 13) #[true, true, true, false, false, false, false] #[true, false, true, false, false, true, false] rfl rfl rfl rfl (by kernel_rfl) (by decide) (by decide) (fun K hK => ?_) (fun K hK => ?_)
                              · skip
                                refine sqG Try.func16 #[.agg #[.int .i64 a0_0, .slice A0_1 l0_1.length c0_1]] ?_
                                with_reducible refine (laws_toGaps.calls kj34 a0_0 _ _ l0_1 t221 t222 _ ?side1 ?side2 A125.out).mono ?_
                                (case side1 => repeat (first | exact (Kd.C_below HR0_1.out HB.out) | (with_reducible refine Kd.C_alloc ?_ _) | (with_reducible refine Kd.C_drewN ?_ _) | (with_reducible refine Kd.C_drew ?_)))
                                (case side2 => exact HC0_1.out)
                                rintro e w178 ⟨v223, rfl, ho0, hb⟩
                                refine ⟨_, rfl, ?_⟩
                                have n0_ := Aside0.mk (Kd.R_elder' (by (with_reducible repeat (first | apply Kd.R_alloc | apply Kd.R_drewN | apply Kd.R_drew)); exact HO_187001.out) (Kd.R_base ho0) hb)
                                have n1_ := Aside0.mk (Kd.R_elder' (by (with_reducible repeat (first | apply Kd.R_alloc | apply Kd.R_drewN | apply Kd.R_drew)); exact HO_192001.out) (Kd.R_base ho0) hb)
                                have n2_ := Aside0.mk (Kd.R_elder' (by (with_reducible repeat (first | apply Kd.R_alloc | apply Kd.R_drewN | apply Kd.R_drew)); exact HO_197001.out) (Kd.R_base ho0) hb)
                                have n3_ := Aside0.mk (Kd.R_elder' (by (with_reducible repeat (first | apply Kd.R_alloc | apply Kd.R_drewN | apply Kd.R_drew)); exact HO_202001.out) (Kd.R_base ho0) hb)
                                have n4_ := Aside0.mk (Kd.R_lower (Kd.R_new' (Kd.R_new' (Kd.R_new' (Kd.R_new' ho0 (Kd.R_lt (by (with_reducible repeat (first | apply Kd.R_alloc | apply Kd.R_drewN | apply Kd.R_drew)); exact HO_187001.out))) (Kd.R_lt (by (with_reducible repeat (first | apply Kd.R_alloc | apply Kd.R_drewN | apply Kd.R_drew)); exact HO_192001.out))) (Kd.R_lt (by (with_reducible repeat (first | apply Kd.R_alloc | apply Kd.R_drewN | apply Kd.R_drew)); exact HO_197001.out))) (Kd.R_lt (by (with_reducible repeat (first | apply Kd.R_alloc | apply Kd.R_drewN | apply Kd.R_drew)); exact HO_202001.out))) (below_size (by repeat (first | (with_reducible first | exact HB.out | apply below_alloc | apply pw_below_drewN | apply below_drew1 | refine below_set ?_ GE170.out | refine below_set ?_ GE171.out | refine below_set ?_ GE186.out | refine below_set ?_ GE191.out | refine below_set ?_ GE196.out | refine below_set ?_ GE201.out) | exact HB.out))))
                                have n5_ := sqb BK170 hb
                                have n6_ := sqb BK171 hb
                                have n7_ := sqb BK186 hb
                                have n8_ := sqb BK191 hb
                                have n9_ := sqb BK196 hb
                                have n10_ := sqb BK201 hb
                                have n11_ := sqs HB hb
                                clear HO_187001
                                clear HO_192001
                                clear HO_197001
                                clear HO_202001
                                clear BK170
                                clear BK171
                                clear BK186
                                clear BK191
                                clear BK196
                                clear BK201
                                clear HB
                                have HO_187001 := n0_
                                have HO_192001 := n1_
                                have HO_197001 := n2_
                                have HO_202001 := n3_
                                have HO224 := n4_
                                have BK170 := n5_
                                have BK171 := n6_
                                have BK186 := n7_
                                have BK191 := n8_
                                have BK196 := n9_
                                have BK201 := n10_
                                have HB := n11_
                                clear n0_ n1_ n2_ n3_ n4_ n5_ n6_ n7_ n8_ n9_ n10_ n11_
                                (try clear hb)
                                (try clear hb2)
                                (try clear hk)
                                (try clear hi)
                                (try clear ho0)
                                refine hK.out _ _ sqz (fun hHeld => ?_)
                                clear hK K
                                refine sqnm ?_
                                refine two_ (i := 3) (j := 5) (Ni := some 78) (Nj := some 13) #[true, true, true, true, false, false, false] #[true, true, true, false, false, true, false] rfl rfl rfl rfl (by kernel_rfl) (by decide) (by decide) (fun K hK => ?_) (fun K hK => ?_)
                                · skip
                                  refine sqG Try.func16 #[.agg #[.int .i64 a1_0, .slice A1_1 l1_1.length c1_1]] ?_
                                  with_reducible refine (laws_toGaps.calls kj34 a1_0 _ _ l1_1 t225 t226 _ ?side1 ?side2 A126.out).mono ?_
                                  (case side1 => repeat (first | exact (Kd.C_below HR1_1.out HB.out) | (with_reducible refine Kd.C_alloc ?_ _) | (with_reducible refine Kd.C_drewN ?_ _) | (with_reducible refine Kd.C_drew ?_)))
                                  (case side2 => exact HC1_1.out)
                                  rintro e w179 ⟨v227, rfl, ho0, hb⟩
                                  refine ⟨_, rfl, ?_⟩
                                  have n0_ := Aside0.mk (Kd.R_elder' (by (with_reducible repeat (first | apply Kd.R_alloc | apply Kd.R_drewN | apply Kd.R_drew)); exact HO_187001.out) (Kd.R_base ho0) hb)
                                  have n1_ := Aside0.mk (Kd.R_elder' (by (with_reducible repeat (first | apply Kd.R_alloc | apply Kd.R_drewN | apply Kd.R_drew)); exact HO_192001.out) (Kd.R_base ho0) hb)
                                  have n2_ := Aside0.mk (Kd.R_elder' (by (with_reducible repeat (first | apply Kd.R_alloc | apply Kd.R_drewN | apply Kd.R_drew)); exact HO_197001.out) (Kd.R_base ho0) hb)
                                  have n3_ := Aside0.mk (Kd.R_elder' (by (with_reducible repeat (first | apply Kd.R_alloc | apply Kd.R_drewN | apply Kd.R_drew)); exact HO_202001.out) (Kd.R_base ho0) hb)
                                  have n4_ := Aside0.mk (Kd.R_elder' (by (with_reducible repeat (first | apply Kd.R_alloc | apply Kd.R_drewN | apply Kd.R_drew)); exact HO224.out) (Kd.R_base ho0) hb)
                                  have n5_ := Aside0.mk (Kd.R_lower (Kd.R_new' (Kd.R_new' (Kd.R_new' (Kd.R_new' (Kd.R_new' ho0 (Kd.R_lt (by (with_reducible repeat (first | apply Kd.R_alloc | apply Kd.R_drewN | apply Kd.R_drew)); exact HO_187001.out))) (Kd.R_lt (by (with_reducible repeat (first | apply Kd.R_alloc | apply Kd.R_drewN | apply Kd.R_drew)); exact HO_192001.out))) (Kd.R_lt (by (with_reducible repeat (first | apply Kd.R_alloc | apply Kd.R_drewN | apply Kd.R_drew)); exact HO_197001.out))) (Kd.R_lt (by (with_reducible repeat (first | apply Kd.R_alloc | apply Kd.R_drewN | apply Kd.R_drew)); exact HO_202001.out))) (Kd.R_lt (by (with_reducible repeat (first | apply Kd.R_alloc | apply Kd.R_drewN | apply Kd.R_drew)); exact HO224.out))) (below_size (by repeat (first | (with_reducible first | exact HB.out | apply below_alloc | apply pw_below_drewN | apply below_drew1 | refine below_set ?_ GE170.out | refine below_set ?_ GE171.out | refine below_set ?_ GE186.out | refine below_set ?_ GE191.out | refine below_set ?_ GE196.out | refine below_set ?_ GE201.out) | exact HB.out))))
                                  have n6_ := sqb BK170 hb
                                  have n7_ := sqb BK171 hb
                                  have n8_ := sqb BK186 hb
                                  have n9_ := sqb BK191 hb
                                  have n10_ := sqb BK196 hb
                                  have n11_ := sqb BK201 hb
                                  have n12_ := sqs HB hb
                                  clear HO_187001
                                  clear HO_192001
                                  clear HO_197001
                                  clear HO_202001
                                  clear HO224
                                  clear BK170
                                  clear BK171
                                  clear BK186
                                  clear BK191
                                  clear BK196
                                  clear BK201
                                  clear HB
                                  have HO_187001 := n0_
                                  have HO_192001 := n1_
                                  have HO_197001 := n2_
                                  have HO_202001 := n3_
                                  have HO224 := n4_
                                  have HO228 := n5_
                                  have BK170 := n6_
                                  have BK171 := n7_
                                  have BK186 := n8_
                                  have BK191 := n9_
                                  have BK196 := n10_
                                  have BK201 := n11_
                                  have HB := n12_
                                  clear n0_ n1_ n2_ n3_ n4_ n5_ n6_ n7_ n8_ n9_ n10_ n11_ n12_
                                  (try clear hb)
                                  (try clear hb2)
                                  (try clear hk)
                                  (try clear hi)
                                  (try clear ho0)
                                  obtain ⟨Ao180, co180, eo180⟩ := Kd.R_slice HO224.out
                                  (first | subst eo180 | (injection eo180 with f1_ f2_ f3_; have f4_ := f1_.symm; have f5_ := f3_.symm; clear f1_ f2_ f3_; subst f4_; subst f5_))
                                  obtain ⟨Ao181, co181, eo181⟩ := Kd.R_slice HO228.out
                                  (first | subst eo181 | (injection eo181 with f1_ f2_ f3_; have f4_ := f1_.symm; have f5_ := f3_.symm; clear f1_ f2_ f3_; subst f4_; subst f5_))
                                  refine hK.out _ _ sqz (fun hHeld => ?_)
                                  clear hK K
                                  refine sqnm ?_
                                  refine two_ (i := 4) (j := 5) (Ni := some 79) (Nj := some 13) #[true, true, true, true, true, false, false] #[true, true, true, true, false, true, false] rfl rfl rfl rfl (by kernel_rfl) (by decide) (by decide) (fun K hK => ?_) (fun K hK => ?_)
                                  · skip
                                    refine sqG Try.func25 #[.agg #[.int .i64 t221, .slice Ao180 t222.length co180], .agg #[.int .i64 t225, .slice Ao181 t226.length co181]] ?_
                                    with_reducible refine (impl_GapsJoin.calls kj34 t221 _ _ t222 t225 _ _ t226 t229 t230 _ ?side1 ?side2 ?side3 ?side4 A127.out).mono ?_
                                    (case side1 => repeat (first | exact (Kd.R_reads' HO224.out).2.2 | (with_reducible refine Kd.C_alloc ?_ _) | (with_reducible refine Kd.C_drewN ?_ _) | (with_reducible refine Kd.C_drew ?_)))
                                    (case side2 => exact (Kd.R_reads' HO224.out).2.1)
                                    (case side3 => repeat (first | exact (Kd.R_reads' HO228.out).2.2 | (with_reducible refine Kd.C_alloc ?_ _) | (with_reducible refine Kd.C_drewN ?_ _) | (with_reducible refine Kd.C_drew ?_)))
                                    (case side4 => exact (Kd.R_reads' HO228.out).2.1)
                                    rintro e w182 ⟨v231, rfl, ho0, hb⟩
                                    refine ⟨_, rfl, ?_⟩
                                    have n0_ := Aside0.mk (Kd.R_elder' (by (with_reducible repeat (first | apply Kd.R_alloc | apply Kd.R_drewN | apply Kd.R_drew)); exact HO_187001.out) (Kd.R_base ho0) hb)
                                    have n1_ := Aside0.mk (Kd.R_elder' (by (with_reducible repeat (first | apply Kd.R_alloc | apply Kd.R_drewN | apply Kd.R_drew)); exact HO_192001.out) (Kd.R_base ho0) hb)
                                    have n2_ := Aside0.mk (Kd.R_elder' (by (with_reducible repeat (first | apply Kd.R_alloc | apply Kd.R_drewN | apply Kd.R_drew)); exact HO_197001.out) (Kd.R_base ho0) hb)
                                    have n3_ := Aside0.mk (Kd.R_elder' (by (with_reducible repeat (first | apply Kd.R_alloc | apply Kd.R_drewN | apply Kd.R_drew)); exact HO_202001.out) (Kd.R_base ho0) hb)
                                    have n4_ := Aside0.mk (Kd.R_elder' (by (with_reducible repeat (first | apply Kd.R_alloc | apply Kd.R_drewN | apply Kd.R_drew)); exact HO224.out) (Kd.R_base ho0) hb)
                                    have n5_ := Aside0.mk (Kd.R_elder' (by (with_reducible repeat (first | apply Kd.R_alloc | apply Kd.R_drewN | apply Kd.R_drew)); exact HO228.out) (Kd.R_base ho0) hb)
                                    have n6_ := Aside0.mk (Kd.R_lower (Kd.R_new' (Kd.R_new' (Kd.R_new' (Kd.R_new' (Kd.R_new' (Kd.R_new' ho0 (Kd.R_lt (by (with_reducible repeat (first | apply Kd.R_alloc | apply Kd.R_drewN | apply Kd.R_drew)); exact HO_187001.out))) (Kd.R_lt (by (with_reducible repeat (first | apply Kd.R_alloc | apply Kd.R_drewN | apply Kd.R_drew)); exact HO_192001.out))) (Kd.R_lt (by (with_reducible repeat (first | apply Kd.R_alloc | apply Kd.R_drewN | apply Kd.R_drew)); exact HO_197001.out))) (Kd.R_lt (by (with_reducible repeat (first | apply Kd.R_alloc | apply Kd.R_drewN | apply Kd.R_drew)); exact HO_202001.out))) (Kd.R_lt (by (with_reducible repeat (first | apply Kd.R_alloc | apply Kd.R_drewN | apply Kd.R_drew)); exact HO224.out))) (Kd.R_lt (by (with_reducible repeat (first | apply Kd.R_alloc | apply Kd.R_drewN | apply Kd.R_drew)); exact HO228.out))) (below_size (by repeat (first | (with_reducible first | exact HB.out | apply below_alloc | apply pw_below_drewN | apply below_drew1 | refine below_set ?_ GE170.out | refine below_set ?_ GE171.out | refine below_set ?_ GE186.out | refine below_set ?_ GE191.out | refine below_set ?_ GE196.out | refine below_set ?_ GE201.out) | exact HB.out))))
                                    have n7_ := sqb BK170 hb
                                    have n8_ := sqb BK171 hb
                                    have n9_ := sqb BK186 hb
                                    have n10_ := sqb BK191 hb
                                    have n11_ := sqb BK196 hb
                                    have n12_ := sqb BK201 hb
                                    have n13_ := sqs HB hb
                                    clear HO_187001
                                    clear HO_192001
                                    clear HO_197001
                                    clear HO_202001
                                    clear HO224
                                    clear HO228
                                    clear BK170
                                    clear BK171
                                    clear BK186
                                    clear BK191
                                    clear BK196
                                    clear BK201
                                    clear HB
                                    have HO_187001 := n0_
                                    have HO_192001 := n1_
                                    have HO_197001 := n2_
                                    have HO_202001 := n3_
                                    have HO224 := n4_
                                    have HO228 := n5_
                                    have HO232 := n6_
                                    have BK170 := n7_
                                    have BK171 := n8_
                                    have BK186 := n9_
                                    have BK191 := n10_
                                    have BK196 := n11_
                                    have BK201 := n12_
                                    have HB := n13_
                                    clear n0_ n1_ n2_ n3_ n4_ n5_ n6_ n7_ n8_ n9_ n10_ n11_ n12_ n13_
                                    (try clear hb)
                                    (try clear hb2)
                                    (try clear hk)
                                    (try clear hi)
                                    (try clear ho0)
                                    refine hK.out _ _ sqz (fun hHeld => ?_)
                                    clear hK K
                                    refine sqnm ?_
                                    refine one_ (i := 5) (N := some 13) #[true, true, true, true, true, true, false] rfl rfl (by kernel_rfl) (by decide) (fun K hK => ?_)
                                    refine box_step ?hg (N := 13) ?hd (cs := #[.int .i64 0, .slice none 0 0]) (t := 29) ?hr ?_; (case hd => rfl); (case hg => rfl); (case hr => first | (go_simp; done) | (go_simp; rfl))
                                    intro gb233 hg w183 hbox hb
                                    have n0_ := Aside0.mk (Kd.R_below (by (with_reducible repeat (first | apply Kd.R_alloc | apply Kd.R_drewN | apply Kd.R_drew)); exact HO_187001.out) hb)
                                    have n1_ := Aside0.mk (Kd.R_below (by (with_reducible repeat (first | apply Kd.R_alloc | apply Kd.R_drewN | apply Kd.R_drew)); exact HO_192001.out) hb)
                                    have n2_ := Aside0.mk (Kd.R_below (by (with_reducible repeat (first | apply Kd.R_alloc | apply Kd.R_drewN | apply Kd.R_drew)); exact HO_197001.out) hb)
                                    have n3_ := Aside0.mk (Kd.R_below (by (with_reducible repeat (first | apply Kd.R_alloc | apply Kd.R_drewN | apply Kd.R_drew)); exact HO_202001.out) hb)
                                    have n4_ := Aside0.mk (Kd.R_below (by (with_reducible repeat (first | apply Kd.R_alloc | apply Kd.R_drewN | apply Kd.R_drew)); exact HO224.out) hb)
                                    have n5_ := Aside0.mk (Kd.R_below (by (with_reducible repeat (first | apply Kd.R_alloc | apply Kd.R_drewN | apply Kd.R_drew)); exact HO228.out) hb)
                                    have n6_ := Aside0.mk (Kd.R_below (by (with_reducible repeat (first | apply Kd.R_alloc | apply Kd.R_drewN | apply Kd.R_drew)); exact HO232.out) hb)
                                    have n7_ := sqb BK170 hb
                                    have n8_ := sqb BK171 hb
                                    have n9_ := sqb BK186 hb
                                    have n10_ := sqb BK191 hb
                                    have n11_ := sqb BK196 hb
                                    have n12_ := sqb BK201 hb
                                    have n13_ := sqs HB hb
                                    have n14_ := Aside0.mk (hbox)
                                    have n15_ := sqg HB hg
                                    have n16_ := sqg HB hg
                                    have n17_ := sqn BK170 hg
                                    have n18_ := sqm BK170 hg
                                    have n19_ := sqn BK171 hg
                                    have n20_ := sqm BK171 hg
                                    have n21_ := sqn BK186 hg
                                    have n22_ := sqm BK186 hg
                                    have n23_ := sqn BK191 hg
                                    have n24_ := sqm BK191 hg
                                    have n25_ := sqn BK196 hg
                                    have n26_ := sqm BK196 hg
                                    have n27_ := sqn BK201 hg
                                    have n28_ := sqm BK201 hg
                                    clear HO_187001
                                    clear HO_192001
                                    clear HO_197001
                                    clear HO_202001
                                    clear HO224
                                    clear HO228
                                    clear HO232
                                    clear BK170
                                    clear BK171
                                    clear BK186
                                    clear BK191
                                    clear BK196
                                    clear BK201
                                    clear HB
                                    have HO_187001 := n0_
                                    have HO_192001 := n1_
                                    have HO_197001 := n2_
                                    have HO_202001 := n3_
                                    have HO224 := n4_
                                    have HO228 := n5_
                                    have HO232 := n6_
                                    have BK170 := n7_
                                    have BK171 := n8_
                                    have BK186 := n9_
                                    have BK191 := n10_
                                    have BK196 := n11_
                                    have BK201 := n12_
                                    have HB := n13_
                                    have BK233 := n14_
                                    have GW233 := n15_
                                    have GE233 := n16_
                                    have NB170_233 := n17_
                                    have NB233_170 := n18_
                                    have NB171_233 := n19_
                                    have NB233_171 := n20_
                                    have NB186_233 := n21_
                                    have NB233_186 := n22_
                                    have NB191_233 := n23_
                                    have NB233_191 := n24_
                                    have NB196_233 := n25_
                                    have NB233_196 := n26_
                                    have NB201_233 := n27_
                                    have NB233_201 := n28_
                                    clear n0_ n1_ n2_ n3_ n4_ n5_ n6_ n7_ n8_ n9_ n10_ n11_ n12_ n13_ n14_ n15_ n16_ n17_ n18_ n19_ n20_ n21_ n22_ n23_ n24_ n25_ n26_ n27_ n28_
                                    clear hb hbox hg
                                    refine hK.out _ _ sqz (fun hHeld => ?_)
                                    clear hK K
                                    refine sqnm ?_
                                    exact norm_ (by simp only [putAll, Act.put, List.setIfInBounds_toArray, List.set_cons_zero, List.set_cons_succ]) (hCont (.slice Ao180 t222.length co180, .slice Ao181 t226.length co181, v231, gb233) _ ⟨hHeld, (by (with_reducible repeat (first | apply Kd.R_alloc | apply Kd.R_drewN | apply Kd.R_drew)); exact Kd.R_mono HO224.out (fun _ hk => ⟨hk.1.2, ⟨hk.2, ⟨hk.1.1.1.1.1.2, ⟨hk.1.1.1.1.2, ⟨hk.1.1.1.2, hk.1.1.2⟩⟩⟩⟩⟩)), (by (with_reducible repeat (first | apply Kd.R_alloc | apply Kd.R_drewN | apply Kd.R_drew)); exact Kd.R_mono HO228.out (fun _ hk => ⟨hk.1.2, ⟨hk.2, ⟨hk.1.1.1.1.1.2, ⟨hk.1.1.1.1.2, ⟨hk.1.1.1.2, hk.1.1.2⟩⟩⟩⟩⟩)), (by (with_reducible repeat (first | apply Kd.R_alloc | apply Kd.R_drewN | apply Kd.R_drew)); exact Kd.R_mono HO232.out (fun _ hk => ⟨hk.1.2, ⟨hk.2, ⟨hk.1.1.1.1.1.2, ⟨hk.1.1.1.1.2, ⟨hk.1.1.1.2, hk.1.1.2⟩⟩⟩⟩⟩)), (by (with_reducible repeat (first | apply Kd.R_alloc | apply Kd.R_drewN | apply Kd.R_drew)); exact Kd.R_mono HO_187001.out (fun _ hk => ⟨hk.1.1.2, ⟨hk.1.2, ⟨hk.2, ⟨hk.1.1.1.1, ⟨hk.1.1.1.2.1, hk.1.1.1.2.2⟩⟩⟩⟩⟩)), (by (with_reducible repeat (first | apply Kd.R_alloc | apply Kd.R_drewN | apply Kd.R_drew)); exact Kd.R_mono HO_192001.out (fun _ hk => ⟨hk.1.1.2, ⟨hk.1.2, ⟨hk.2, ⟨hk.1.1.1.1, ⟨hk.1.1.1.2.1, hk.1.1.1.2.2⟩⟩⟩⟩⟩)), (by (with_reducible repeat (first | apply Kd.R_alloc | apply Kd.R_drewN | apply Kd.R_drew)); exact Kd.R_mono HO_197001.out (fun _ hk => ⟨hk.1.1.2, ⟨hk.1.2, ⟨hk.2, ⟨hk.1.1.1.1, ⟨hk.1.1.1.2.1, hk.1.1.1.2.2⟩⟩⟩⟩⟩)), (by (with_reducible repeat (first | apply Kd.R_alloc | apply Kd.R_drewN | apply Kd.R_drew)); exact Kd.R_mono HO_202001.out (fun _ hk => ⟨hk.1.1.2, ⟨hk.1.2, ⟨hk.2, ⟨hk.1.1.1.1, ⟨hk.1.1.1.2.1, hk.1.1.1.2.2⟩⟩⟩⟩⟩)), (by refine sqt ?_; exact BK170.out), (by refine sqt ?_; exact BK171.out), (by refine sqt ?_; exact BK186.out), (by refine sqt ?_; exact BK191.out), (by refine sqt ?_; exact BK196.out), (by refine sqt ?_; exact BK201.out), (by refine sqt ?_; exact BK233.out), GW233.out, GE233.out, NB170_233.out, NB233_170.out, NB171_233.out, NB233_171.out, NB186_233.out, NB233_186.out, NB191_233.out, NB233_191.out, NB196_233.out, NB233_196.out, NB201_233.out, NB233_201.out, (by repeat (first | (with_reducible first | exact HB.out | apply below_alloc | apply pw_below_drewN | apply below_drew1 | refine below_set ?_ GE170.out | refine below_set ?_ GE171.out | refine below_set ?_ GE186.out | refine below_set ?_ GE191.out | refine below_set ?_ GE196.out | refine below_set ?_ GE201.out | refine below_set ?_ GE233.out) | exact HB.out))⟩)
                                  · skip
                                    refine box_step ?hg (N := 13) ?hd (cs := #[.int .i64 0, .slice none 0 0]) (t := 29) ?hr ?_; (case hd => rfl); (case hg => rfl); (case hr => first | (go_simp; done) | (go_simp; rfl))
                                    intro gb233 hg w180 hbox hb
                                    have n0_ := Aside0.mk (Kd.R_below (by (with_reducible repeat (first | apply Kd.R_alloc | apply Kd.R_drewN | apply Kd.R_drew)); exact HO_187001.out) hb)
                                    have n1_ := Aside0.mk (Kd.R_below (by (with_reducible repeat (first | apply Kd.R_alloc | apply Kd.R_drewN | apply Kd.R_drew)); exact HO_192001.out) hb)
                                    have n2_ := Aside0.mk (Kd.R_below (by (with_reducible repeat (first | apply Kd.R_alloc | apply Kd.R_drewN | apply Kd.R_drew)); exact HO_197001.out) hb)
                                    have n3_ := Aside0.mk (Kd.R_below (by (with_reducible repeat (first | apply Kd.R_alloc | apply Kd.R_drewN | apply Kd.R_drew)); exact HO_202001.out) hb)
                                    have n4_ := Aside0.mk (Kd.R_below (by (with_reducible repeat (first | apply Kd.R_alloc | apply Kd.R_drewN | apply Kd.R_drew)); exact HO224.out) hb)
                                    have n5_ := Aside0.mk (Kd.R_below (by (with_reducible repeat (first | apply Kd.R_alloc | apply Kd.R_drewN | apply Kd.R_drew)); exact HO228.out) hb)
                                    have n6_ := sqb BK170 hb
                                    have n7_ := sqb BK171 hb
                                    have n8_ := sqb BK186 hb
                                    have n9_ := sqb BK191 hb
                                    have n10_ := sqb BK196 hb
                                    have n11_ := sqb BK201 hb
                                    have n12_ := sqs HB hb
                                    have n13_ := Aside0.mk (hbox)
                                    have n14_ := sqg HB hg
                                    have n15_ := sqg HB hg
                                    have n16_ := sqn BK170 hg
                                    have n17_ := sqm BK170 hg
                                    have n18_ := sqn BK171 hg
                                    have n19_ := sqm BK171 hg
                                    have n20_ := sqn BK186 hg
                                    have n21_ := sqm BK186 hg
                                    have n22_ := sqn BK191 hg
                                    have n23_ := sqm BK191 hg
                                    have n24_ := sqn BK196 hg
                                    have n25_ := sqm BK196 hg
                                    have n26_ := sqn BK201 hg
                                    have n27_ := sqm BK201 hg
                                    clear HO_187001
                                    clear HO_192001
                                    clear HO_197001
                                    clear HO_202001
                                    clear HO224
                                    clear HO228
                                    clear BK170
                                    clear BK171
                                    clear BK186
                                    clear BK191
                                    clear BK196
                                    clear BK201
                                    clear HB
                                    have HO_187001 := n0_
                                    have HO_192001 := n1_
                                    have HO_197001 := n2_
                                    have HO_202001 := n3_
                                    have HO224 := n4_
                                    have HO228 := n5_
                                    have BK170 := n6_
                                    have BK171 := n7_
                                    have BK186 := n8_
                                    have BK191 := n9_
                                    have BK196 := n10_
                                    have BK201 := n11_
                                    have HB := n12_
                                    have BK233 := n13_
                                    have GW233 := n14_
                                    have GE233 := n15_
                                    have NB170_233 := n16_
                                    have NB233_170 := n17_
                                    have NB171_233 := n18_
                                    have NB233_171 := n19_
                                    have NB186_233 := n20_
                                    have NB233_186 := n21_
                                    have NB191_233 := n22_
                                    have NB233_191 := n23_
                                    have NB196_233 := n24_
                                    have NB233_196 := n25_
                                    have NB201_233 := n26_
                                    have NB233_201 := n27_
                                    clear n0_ n1_ n2_ n3_ n4_ n5_ n6_ n7_ n8_ n9_ n10_ n11_ n12_ n13_ n14_ n15_ n16_ n17_ n18_ n19_ n20_ n21_ n22_ n23_ n24_ n25_ n26_ n27_
                                    clear hb hbox hg
                                    obtain ⟨Ao181, co181, eo181⟩ := Kd.R_slice HO224.out
                                    (first | subst eo181 | (injection eo181 with f1_ f2_ f3_; have f4_ := f1_.symm; have f5_ := f3_.symm; clear f1_ f2_ f3_; subst f4_; subst f5_))
                                    obtain ⟨Ao182, co182, eo182⟩ := Kd.R_slice HO228.out
                                    (first | subst eo182 | (injection eo182 with f1_ f2_ f3_; have f4_ := f1_.symm; have f5_ := f3_.symm; clear f1_ f2_ f3_; subst f4_; subst f5_))
                                    refine hK.out _ _ sqz (fun hHeld => ?_)
                                    clear hK K
                                    refine sqnm ?_
                                    refine one_ (i := 4) (N := some 79) #[true, true, true, true, true, true, false] rfl rfl (by kernel_rfl) (by decide) (fun K hK => ?_)
                                    refine sqG Try.func25 #[.agg #[.int .i64 t221, .slice Ao181 t222.length co181], .agg #[.int .i64 t225, .slice Ao182 t226.length co182]] ?_
                                    with_reducible refine (impl_GapsJoin.calls kj34 t221 _ _ t222 t225 _ _ t226 t229 t230 _ ?side1 ?side2 ?side3 ?side4 A127.out).mono ?_
                                    (case side1 => repeat (first | exact (Kd.R_reads' HO224.out).2.2 | (with_reducible refine Kd.C_alloc ?_ _) | (with_reducible refine Kd.C_drewN ?_ _) | (with_reducible refine Kd.C_drew ?_)))
                                    (case side2 => exact (Kd.R_reads' HO224.out).2.1)
                                    (case side3 => repeat (first | exact (Kd.R_reads' HO228.out).2.2 | (with_reducible refine Kd.C_alloc ?_ _) | (with_reducible refine Kd.C_drewN ?_ _) | (with_reducible refine Kd.C_drew ?_)))
                                    (case side4 => exact (Kd.R_reads' HO228.out).2.1)
                                    rintro e w183 ⟨v231, rfl, ho0, hb⟩
                                    refine ⟨_, rfl, ?_⟩
                                    have n0_ := Aside0.mk (Kd.R_elder' (by (with_reducible repeat (first | apply Kd.R_alloc | apply Kd.R_drewN | apply Kd.R_drew)); exact HO_187001.out) (Kd.R_base ho0) hb)
                                    have n1_ := Aside0.mk (Kd.R_elder' (by (with_reducible repeat (first | apply Kd.R_alloc | apply Kd.R_drewN | apply Kd.R_drew)); exact HO_192001.out) (Kd.R_base ho0) hb)
                                    have n2_ := Aside0.mk (Kd.R_elder' (by (with_reducible repeat (first | apply Kd.R_alloc | apply Kd.R_drewN | apply Kd.R_drew)); exact HO_197001.out) (Kd.R_base ho0) hb)
                                    have n3_ := Aside0.mk (Kd.R_elder' (by (with_reducible repeat (first | apply Kd.R_alloc | apply Kd.R_drewN | apply Kd.R_drew)); exact HO_202001.out) (Kd.R_base ho0) hb)
                                    have n4_ := Aside0.mk (Kd.R_elder' (by (with_reducible repeat (first | apply Kd.R_alloc | apply Kd.R_drewN | apply Kd.R_drew)); exact HO224.out) (Kd.R_base ho0) hb)
                                    have n5_ := Aside0.mk (Kd.R_elder' (by (with_reducible repeat (first | apply Kd.R_alloc | apply Kd.R_drewN | apply Kd.R_drew)); exact HO228.out) (Kd.R_base ho0) hb)
                                    have n6_ := Aside0.mk (Kd.R_lower (Kd.R_new' (Kd.R_new' (Kd.R_new' (Kd.R_new' (Kd.R_new' (Kd.R_new' ho0 (Kd.R_lt (by (with_reducible repeat (first | apply Kd.R_alloc | apply Kd.R_drewN | apply Kd.R_drew)); exact HO_187001.out))) (Kd.R_lt (by (with_reducible repeat (first | apply Kd.R_alloc | apply Kd.R_drewN | apply Kd.R_drew)); exact HO_192001.out))) (Kd.R_lt (by (with_reducible repeat (first | apply Kd.R_alloc | apply Kd.R_drewN | apply Kd.R_drew)); exact HO_197001.out))) (Kd.R_lt (by (with_reducible repeat (first | apply Kd.R_alloc | apply Kd.R_drewN | apply Kd.R_drew)); exact HO_202001.out))) (Kd.R_lt (by (with_reducible repeat (first | apply Kd.R_alloc | apply Kd.R_drewN | apply Kd.R_drew)); exact HO224.out))) (Kd.R_lt (by (with_reducible repeat (first | apply Kd.R_alloc | apply Kd.R_drewN | apply Kd.R_drew)); exact HO228.out))) (below_size (by repeat (first | (with_reducible first | exact HB.out | apply below_alloc | apply pw_below_drewN | apply below_drew1 | refine below_set ?_ GE170.out | refine below_set ?_ GE171.out | refine below_set ?_ GE186.out | refine below_set ?_ GE191.out | refine below_set ?_ GE196.out | refine below_set ?_ GE201.out | refine below_set ?_ GE233.out) | exact HB.out))))
                                    have n7_ := sqb BK170 hb
                                    have n8_ := sqb BK171 hb
                                    have n9_ := sqb BK186 hb
                                    have n10_ := sqb BK191 hb
                                    have n11_ := sqb BK196 hb
                                    have n12_ := sqb BK201 hb
                                    have n13_ := sqb BK233 hb
                                    have n14_ := sqs HB hb
                                    clear HO_187001
                                    clear HO_192001
                                    clear HO_197001
                                    clear HO_202001
                                    clear HO224
                                    clear HO228
                                    clear BK170
                                    clear BK171
                                    clear BK186
                                    clear BK191
                                    clear BK196
                                    clear BK201
                                    clear BK233
                                    clear HB
                                    have HO_187001 := n0_
                                    have HO_192001 := n1_
                                    have HO_197001 := n2_
                                    have HO_202001 := n3_
                                    have HO224 := n4_
                                    have HO228 := n5_
                                    have HO232 := n6_
                                    have BK170 := n7_
                                    have BK171 := n8_
                                    have BK186 := n9_
                                    have BK191 := n10_
                                    have BK196 := n11_
                                    have BK201 := n12_
                                    have BK233 := n13_
                                    have HB := n14_
                                    clear n0_ n1_ n2_ n3_ n4_ n5_ n6_ n7_ n8_ n9_ n10_ n11_ n12_ n13_ n14_
                                    (try clear hb)
                                    (try clear hb2)
                                    (try clear hk)
                                    (try clear hi)
                                    (try clear ho0)
                                    refine hK.out _ _ sqz (fun hHeld => ?_)
                                    clear hK K
                                    refine sqnm ?_
                                    exact norm_ (by simp only [putAll, Act.put, List.setIfInBounds_toArray, List.set_cons_zero, List.set_cons_succ]) (hCont (.slice Ao181 t222.length co181, .slice Ao182 t226.length co182, v231, gb233) _ ⟨hHeld, (by (with_reducible repeat (first | apply Kd.R_alloc | apply Kd.R_drewN | apply Kd.R_drew)); exact Kd.R_mono HO224.out (fun _ hk => ⟨hk.1.2, ⟨hk.2, ⟨hk.1.1.1.1.1.2, ⟨hk.1.1.1.1.2, ⟨hk.1.1.1.2, hk.1.1.2⟩⟩⟩⟩⟩)), (by (with_reducible repeat (first | apply Kd.R_alloc | apply Kd.R_drewN | apply Kd.R_drew)); exact Kd.R_mono HO228.out (fun _ hk => ⟨hk.1.2, ⟨hk.2, ⟨hk.1.1.1.1.1.2, ⟨hk.1.1.1.1.2, ⟨hk.1.1.1.2, hk.1.1.2⟩⟩⟩⟩⟩)), (by (with_reducible repeat (first | apply Kd.R_alloc | apply Kd.R_drewN | apply Kd.R_drew)); exact Kd.R_mono HO232.out (fun _ hk => ⟨hk.1.2, ⟨hk.2, ⟨hk.1.1.1.1.1.2, ⟨hk.1.1.1.1.2, ⟨hk.1.1.1.2, hk.1.1.2⟩⟩⟩⟩⟩)), (by (with_reducible repeat (first | apply Kd.R_alloc | apply Kd.R_drewN | apply Kd.R_drew)); exact Kd.R_mono HO_187001.out (fun _ hk => ⟨hk.1.1.2, ⟨hk.1.2, ⟨hk.2, ⟨hk.1.1.1.1, ⟨hk.1.1.1.2.1, hk.1.1.1.2.2⟩⟩⟩⟩⟩)), (by (with_reducible repeat (first | apply Kd.R_alloc | apply Kd.R_drewN | apply Kd.R_drew)); exact Kd.R_mono HO_192001.out (fun _ hk => ⟨hk.1.1.2, ⟨hk.1.2, ⟨hk.2, ⟨hk.1.1.1.1, ⟨hk.1.1.1.2.1, hk.1.1.1.2.2⟩⟩⟩⟩⟩)), (by (with_reducible repeat (first | apply Kd.R_alloc | apply Kd.R_drewN | apply Kd.R_drew)); exact Kd.R_mono HO_197001.out (fun _ hk => ⟨hk.1.1.2, ⟨hk.1.2, ⟨hk.2, ⟨hk.1.1.1.1, ⟨hk.1.1.1.2.1, hk.1.1.1.2.2⟩⟩⟩⟩⟩)), (by (with_reducible repeat (first | apply Kd.R_alloc | apply Kd.R_drewN | apply Kd.R_drew)); exact Kd.R_mono HO_202001.out (fun _ hk => ⟨hk.1.1.2, ⟨hk.1.2, ⟨hk.2, ⟨hk.1.1.1.1, ⟨hk.1.1.1.2.1, hk.1.1.1.2.2⟩⟩⟩⟩⟩)), (by refine sqt ?_; exact BK170.out), (by refine sqt ?_; exact BK171.out), (by refine sqt ?_; exact BK186.out), (by refine sqt ?_; exact BK191.out), (by refine sqt ?_; exact BK196.out), (by refine sqt ?_; exact BK201.out), (by refine sqt ?_; exact BK233.out), GW233.out, GE233.out, NB170_233.out, NB233_170.out, NB171_233.out, NB233_171.out, NB186_233.out, NB233_186.out, NB191_233.out, NB233_191.out, NB196_233.out, NB233_196.out, NB201_233.out, NB233_201.out, (by repeat (first | (with_reducible first | exact HB.out | apply below_alloc | apply pw_below_drewN | apply below_drew1 | refine below_set ?_ GE170.out | refine below_set ?_ GE171.out | refine below_set ?_ GE186.out | refine below_set ?_ GE191.out | refine below_set ?_ GE196.out | refine below_set ?_ GE201.out | refine below_set ?_ GE233.out) | exact HB.out))⟩)
                                · skip
                                  refine box_step ?hg (N := 13) ?hd (cs := #[.int .i64 0, .slice none 0 0]) (t := 29) ?hr ?_; (case hd => rfl); (case hg => rfl); (case hr => first | (go_simp; done) | (go_simp; rfl))
                                  intro gb233 hg w179 hbox hb
                                  have n0_ := Aside0.mk (Kd.R_below (by (with_reducible repeat (first | apply Kd.R_alloc | apply Kd.R_drewN | apply Kd.R_drew)); exact HO_187001.out) hb)
                                  have n1_ := Aside0.mk (Kd.R_below (by (with_reducible repeat (first | apply Kd.R_alloc | apply Kd.R_drewN | apply Kd.R_drew)); exact HO_192001.out) hb)
                                  have n2_ := Aside0.mk (Kd.R_below (by (with_reducible repeat (first | apply Kd.R_alloc | apply Kd.R_drewN | apply Kd.R_drew)); exact HO_197001.out) hb)
                                  have n3_ := Aside0.mk (Kd.R_below (by (with_reducible repeat (first | apply Kd.R_alloc | apply Kd.R_drewN | apply Kd.R_drew)); exact HO_202001.out) hb)
                                  have n4_ := Aside0.mk (Kd.R_below (by (with_reducible repeat (first | apply Kd.R_alloc | apply Kd.R_drewN | apply Kd.R_drew)); exact HO224.out) hb)
                                  have n5_ := sqb BK170 hb
                                  have n6_ := sqb BK171 hb
                                  have n7_ := sqb BK186 hb
                                  have n8_ := sqb BK191 hb
                                  have n9_ := sqb BK196 hb
                                  have n10_ := sqb BK201 hb
                                  have n11_ := sqs HB hb
                                  have n12_ := Aside0.mk (hbox)
                                  have n13_ := sqg HB hg
                                  have n14_ := sqg HB hg
                                  have n15_ := sqn BK170 hg
                                  have n16_ := sqm BK170 hg
                                  have n17_ := sqn BK171 hg
                                  have n18_ := sqm BK171 hg
                                  have n19_ := sqn BK186 hg
                                  have n20_ := sqm BK186 hg
                                  have n21_ := sqn BK191 hg
                                  have n22_ := sqm BK191 hg
                                  have n23_ := sqn BK196 hg
                                  have n24_ := sqm BK196 hg
                                  have n25_ := sqn BK201 hg
                                  have n26_ := sqm BK201 hg
                                  clear HO_187001
                                  clear HO_192001
                                  clear HO_197001
                                  clear HO_202001
                                  clear HO224
                                  clear BK170
                                  clear BK171
                                  clear BK186
                                  clear BK191
                                  clear BK196
                                  clear BK201
                                  clear HB
                                  have HO_187001 := n0_
                                  have HO_192001 := n1_
                                  have HO_197001 := n2_
                                  have HO_202001 := n3_
                                  have HO224 := n4_
                                  have BK170 := n5_
                                  have BK171 := n6_
                                  have BK186 := n7_
                                  have BK191 := n8_
                                  have BK196 := n9_
                                  have BK201 := n10_
                                  have HB := n11_
                                  have BK233 := n12_
                                  have GW233 := n13_
                                  have GE233 := n14_
                                  have NB170_233 := n15_
                                  have NB233_170 := n16_
                                  have NB171_233 := n17_
                                  have NB233_171 := n18_
                                  have NB186_233 := n19_
                                  have NB233_186 := n20_
                                  have NB191_233 := n21_
                                  have NB233_191 := n22_
                                  have NB196_233 := n23_
                                  have NB233_196 := n24_
                                  have NB201_233 := n25_
                                  have NB233_201 := n26_
                                  clear n0_ n1_ n2_ n3_ n4_ n5_ n6_ n7_ n8_ n9_ n10_ n11_ n12_ n13_ n14_ n15_ n16_ n17_ n18_ n19_ n20_ n21_ n22_ n23_ n24_ n25_ n26_
                                  clear hb hbox hg
                                  refine hK.out _ _ sqz (fun hHeld => ?_)
                                  clear hK K
                                  refine sqnm ?_
                                  refine one_ (i := 3) (N := some 78) #[true, true, true, true, false, true, false] rfl rfl (by kernel_rfl) (by decide) (fun K hK => ?_)
                                  refine sqG Try.func16 #[.agg #[.int .i64 a1_0, .slice A1_1 l1_1.length c1_1]] ?_
                                  with_reducible refine (laws_toGaps.calls kj34 a1_0 _ _ l1_1 t225 t226 _ ?side1 ?side2 A126.out).mono ?_
                                  (case side1 => repeat (first | exact (Kd.C_below HR1_1.out HB.out) | (with_reducible refine Kd.C_alloc ?_ _) | (with_reducible refine Kd.C_drewN ?_ _) | (with_reducible refine Kd.C_drew ?_)))
                                  (case side2 => exact HC1_1.out)
                                  rintro e w180 ⟨v227, rfl, ho0, hb⟩
                                  refine ⟨_, rfl, ?_⟩
                                  have n0_ := Aside0.mk (Kd.R_elder' (by (with_reducible repeat (first | apply Kd.R_alloc | apply Kd.R_drewN | apply Kd.R_drew)); exact HO_187001.out) (Kd.R_base ho0) hb)
                                  have n1_ := Aside0.mk (Kd.R_elder' (by (with_reducible repeat (first | apply Kd.R_alloc | apply Kd.R_drewN | apply Kd.R_drew)); exact HO_192001.out) (Kd.R_base ho0) hb)
                                  have n2_ := Aside0.mk (Kd.R_elder' (by (with_reducible repeat (first | apply Kd.R_alloc | apply Kd.R_drewN | apply Kd.R_drew)); exact HO_197001.out) (Kd.R_base ho0) hb)
                                  have n3_ := Aside0.mk (Kd.R_elder' (by (with_reducible repeat (first | apply Kd.R_alloc | apply Kd.R_drewN | apply Kd.R_drew)); exact HO_202001.out) (Kd.R_base ho0) hb)
                                  have n4_ := Aside0.mk (Kd.R_elder' (by (with_reducible repeat (first | apply Kd.R_alloc | apply Kd.R_drewN | apply Kd.R_drew)); exact HO224.out) (Kd.R_base ho0) hb)
                                  have n5_ := Aside0.mk (Kd.R_lower (Kd.R_new' (Kd.R_new' (Kd.R_new' (Kd.R_new' (Kd.R_new' ho0 (Kd.R_lt (by (with_reducible repeat (first | apply Kd.R_alloc | apply Kd.R_drewN | apply Kd.R_drew)); exact HO_187001.out))) (Kd.R_lt (by (with_reducible repeat (first | apply Kd.R_alloc | apply Kd.R_drewN | apply Kd.R_drew)); exact HO_192001.out))) (Kd.R_lt (by (with_reducible repeat (first | apply Kd.R_alloc | apply Kd.R_drewN | apply Kd.R_drew)); exact HO_197001.out))) (Kd.R_lt (by (with_reducible repeat (first | apply Kd.R_alloc | apply Kd.R_drewN | apply Kd.R_drew)); exact HO_202001.out))) (Kd.R_lt (by (with_reducible repeat (first | apply Kd.R_alloc | apply Kd.R_drewN | apply Kd.R_drew)); exact HO224.out))) (below_size (by repeat (first | (with_reducible first | exact HB.out | apply below_alloc | apply pw_below_drewN | apply below_drew1 | refine below_set ?_ GE170.out | refine below_set ?_ GE171.out | refine below_set ?_ GE186.out | refine below_set ?_ GE191.out | refine below_set ?_ GE196.out | refine below_set ?_ GE201.out | refine below_set ?_ GE233.out) | exact HB.out))))
                                  have n6_ := sqb BK170 hb
                                  have n7_ := sqb BK171 hb
                                  have n8_ := sqb BK186 hb
                                  have n9_ := sqb BK191 hb
                                  have n10_ := sqb BK196 hb
                                  have n11_ := sqb BK201 hb
                                  have n12_ := sqb BK233 hb
                                  have n13_ := sqs HB hb
                                  clear HO_187001
                                  clear HO_192001
                                  clear HO_197001
                                  clear HO_202001
                                  clear HO224
                                  clear BK170
                                  clear BK171
                                  clear BK186
                                  clear BK191
                                  clear BK196
                                  clear BK201
                                  clear BK233
                                  clear HB
                                  have HO_187001 := n0_
                                  have HO_192001 := n1_
                                  have HO_197001 := n2_
                                  have HO_202001 := n3_
                                  have HO224 := n4_
                                  have HO228 := n5_
                                  have BK170 := n6_
                                  have BK171 := n7_
                                  have BK186 := n8_
                                  have BK191 := n9_
                                  have BK196 := n10_
                                  have BK201 := n11_
                                  have BK233 := n12_
                                  have HB := n13_
                                  clear n0_ n1_ n2_ n3_ n4_ n5_ n6_ n7_ n8_ n9_ n10_ n11_ n12_ n13_
                                  (try clear hb)
                                  (try clear hb2)
                                  (try clear hk)
                                  (try clear hi)
                                  (try clear ho0)
                                  obtain ⟨Ao181, co181, eo181⟩ := Kd.R_slice HO224.out
                                  (first | subst eo181 | (injection eo181 with f1_ f2_ f3_; have f4_ := f1_.symm; have f5_ := f3_.symm; clear f1_ f2_ f3_; subst f4_; subst f5_))
                                  obtain ⟨Ao182, co182, eo182⟩ := Kd.R_slice HO228.out
                                  (first | subst eo182 | (injection eo182 with f1_ f2_ f3_; have f4_ := f1_.symm; have f5_ := f3_.symm; clear f1_ f2_ f3_; subst f4_; subst f5_))
                                  refine hK.out _ _ sqz (fun hHeld => ?_)
                                  clear hK K
                                  refine sqnm ?_
                                  refine one_ (i := 4) (N := some 79) #[true, true, true, true, true, true, false] rfl rfl (by kernel_rfl) (by decide) (fun K hK => ?_)
                                  refine sqG Try.func25 #[.agg #[.int .i64 t221, .slice Ao181 t222.length co181], .agg #[.int .i64 t225, .slice Ao182 t226.length co182]] ?_
                                  with_reducible refine (impl_GapsJoin.calls kj34 t221 _ _ t222 t225 _ _ t226 t229 t230 _ ?side1 ?side2 ?side3 ?side4 A127.out).mono ?_
                                  (case side1 => repeat (first | exact (Kd.R_reads' HO224.out).2.2 | (with_reducible refine Kd.C_alloc ?_ _) | (with_reducible refine Kd.C_drewN ?_ _) | (with_reducible refine Kd.C_drew ?_)))
                                  (case side2 => exact (Kd.R_reads' HO224.out).2.1)
                                  (case side3 => repeat (first | exact (Kd.R_reads' HO228.out).2.2 | (with_reducible refine Kd.C_alloc ?_ _) | (with_reducible refine Kd.C_drewN ?_ _) | (with_reducible refine Kd.C_drew ?_)))
                                  (case side4 => exact (Kd.R_reads' HO228.out).2.1)
                                  rintro e w183 ⟨v231, rfl, ho0, hb⟩
                                  refine ⟨_, rfl, ?_⟩
                                  have n0_ := Aside0.mk (Kd.R_elder' (by (with_reducible repeat (first | apply Kd.R_alloc | apply Kd.R_drewN | apply Kd.R_drew)); exact HO_187001.out) (Kd.R_base ho0) hb)
                                  have n1_ := Aside0.mk (Kd.R_elder' (by (with_reducible repeat (first | apply Kd.R_alloc | apply Kd.R_drewN | apply Kd.R_drew)); exact HO_192001.out) (Kd.R_base ho0) hb)
                                  have n2_ := Aside0.mk (Kd.R_elder' (by (with_reducible repeat (first | apply Kd.R_alloc | apply Kd.R_drewN | apply Kd.R_drew)); exact HO_197001.out) (Kd.R_base ho0) hb)
                                  have n3_ := Aside0.mk (Kd.R_elder' (by (with_reducible repeat (first | apply Kd.R_alloc | apply Kd.R_drewN | apply Kd.R_drew)); exact HO_202001.out) (Kd.R_base ho0) hb)
                                  have n4_ := Aside0.mk (Kd.R_elder' (by (with_reducible repeat (first | apply Kd.R_alloc | apply Kd.R_drewN | apply Kd.R_drew)); exact HO224.out) (Kd.R_base ho0) hb)
                                  have n5_ := Aside0.mk (Kd.R_elder' (by (with_reducible repeat (first | apply Kd.R_alloc | apply Kd.R_drewN | apply Kd.R_drew)); exact HO228.out) (Kd.R_base ho0) hb)
                                  have n6_ := Aside0.mk (Kd.R_lower (Kd.R_new' (Kd.R_new' (Kd.R_new' (Kd.R_new' (Kd.R_new' (Kd.R_new' ho0 (Kd.R_lt (by (with_reducible repeat (first | apply Kd.R_alloc | apply Kd.R_drewN | apply Kd.R_drew)); exact HO_187001.out))) (Kd.R_lt (by (with_reducible repeat (first | apply Kd.R_alloc | apply Kd.R_drewN | apply Kd.R_drew)); exact HO_192001.out))) (Kd.R_lt (by (with_reducible repeat (first | apply Kd.R_alloc | apply Kd.R_drewN | apply Kd.R_drew)); exact HO_197001.out))) (Kd.R_lt (by (with_reducible repeat (first | apply Kd.R_alloc | apply Kd.R_drewN | apply Kd.R_drew)); exact HO_202001.out))) (Kd.R_lt (by (with_reducible repeat (first | apply Kd.R_alloc | apply Kd.R_drewN | apply Kd.R_drew)); exact HO224.out))) (Kd.R_lt (by (with_reducible repeat (first | apply Kd.R_alloc | apply Kd.R_drewN | apply Kd.R_drew)); exact HO228.out))) (below_size (by repeat (first | (with_reducible first | exact HB.out | apply below_alloc | apply pw_below_drewN | apply below_drew1 | refine below_set ?_ GE170.out | refine below_set ?_ GE171.out | refine below_set ?_ GE186.out | refine below_set ?_ GE191.out | refine below_set ?_ GE196.out | refine below_set ?_ GE201.out | refine below_set ?_ GE233.out) | exact HB.out))))
                                  have n7_ := sqb BK170 hb
                                  have n8_ := sqb BK171 hb
                                  have n9_ := sqb BK186 hb
                                  have n10_ := sqb BK191 hb
                                  have n11_ := sqb BK196 hb
                                  have n12_ := sqb BK201 hb
                                  have n13_ := sqb BK233 hb
                                  have n14_ := sqs HB hb
                                  clear HO_187001
                                  clear HO_192001
                                  clear HO_197001
                                  clear HO_202001
                                  clear HO224
                                  clear HO228
                                  clear BK170
                                  clear BK171
                                  clear BK186
                                  clear BK191
                                  clear BK196
                                  clear BK201
                                  clear BK233
                                  clear HB
                                  have HO_187001 := n0_
                                  have HO_192001 := n1_
                                  have HO_197001 := n2_
                                  have HO_202001 := n3_
                                  have HO224 := n4_
                                  have HO228 := n5_
                                  have HO232 := n6_
                                  have BK170 := n7_
                                  have BK171 := n8_
                                  have BK186 := n9_
                                  have BK191 := n10_
                                  have BK196 := n11_
                                  have BK201 := n12_
                                  have BK233 := n13_
                                  have HB := n14_
                                  clear n0_ n1_ n2_ n3_ n4_ n5_ n6_ n7_ n8_ n9_ n10_ n11_ n12_ n13_ n14_
                                  (try clear hb)
                                  (try clear hb2)
                                  (try clear hk)
                                  (try clear hi)
                                  (try clear ho0)
                                  refine hK.out _ _ sqz (fun hHeld => ?_)
                                  clear hK K
                                  refine sqnm ?_
                                  exact norm_ (by simp only [putAll, Act.put, List.setIfInBounds_toArray, List.set_cons_zero, List.set_cons_succ]) (hCont (.slice Ao181 t222.length co181, .slice Ao182 t226.length co182, v231, gb233) _ ⟨hHeld, (by (with_reducible repeat (first | apply Kd.R_alloc | apply Kd.R_drewN | apply Kd.R_drew)); exact Kd.R_mono HO224.out (fun _ hk => ⟨hk.1.2, ⟨hk.2, ⟨hk.1.1.1.1.1.2, ⟨hk.1.1.1.1.2, ⟨hk.1.1.1.2, hk.1.1.2⟩⟩⟩⟩⟩)), (by (with_reducible repeat (first | apply Kd.R_alloc | apply Kd.R_drewN | apply Kd.R_drew)); exact Kd.R_mono HO228.out (fun _ hk => ⟨hk.1.2, ⟨hk.2, ⟨hk.1.1.1.1.1.2, ⟨hk.1.1.1.1.2, ⟨hk.1.1.1.2, hk.1.1.2⟩⟩⟩⟩⟩)), (by (with_reducible repeat (first | apply Kd.R_alloc | apply Kd.R_drewN | apply Kd.R_drew)); exact Kd.R_mono HO232.out (fun _ hk => ⟨hk.1.2, ⟨hk.2, ⟨hk.1.1.1.1.1.2, ⟨hk.1.1.1.1.2, ⟨hk.1.1.1.2, hk.1.1.2⟩⟩⟩⟩⟩)), (by (with_reducible repeat (first | apply Kd.R_alloc | apply Kd.R_drewN | apply Kd.R_drew)); exact Kd.R_mono HO_187001.out (fun _ hk => ⟨hk.1.1.2, ⟨hk.1.2, ⟨hk.2, ⟨hk.1.1.1.1, ⟨hk.1.1.1.2.1, hk.1.1.1.2.2⟩⟩⟩⟩⟩)), (by (with_reducible repeat (first | apply Kd.R_alloc | apply Kd.R_drewN | apply Kd.R_drew)); exact Kd.R_mono HO_192001.out (fun _ hk => ⟨hk.1.1.2, ⟨hk.1.2, ⟨hk.2, ⟨hk.1.1.1.1, ⟨hk.1.1.1.2.1, hk.1.1.1.2.2⟩⟩⟩⟩⟩)), (by (with_reducible repeat (first | apply Kd.R_alloc | apply Kd.R_drewN | apply Kd.R_drew)); exact Kd.R_mono HO_197001.out (fun _ hk => ⟨hk.1.1.2, ⟨hk.1.2, ⟨hk.2, ⟨hk.1.1.1.1, ⟨hk.1.1.1.2.1, hk.1.1.1.2.2⟩⟩⟩⟩⟩)), (by (with_reducible repeat (first | apply Kd.R_alloc | apply Kd.R_drewN | apply Kd.R_drew)); exact Kd.R_mono HO_202001.out (fun _ hk => ⟨hk.1.1.2, ⟨hk.1.2, ⟨hk.2, ⟨hk.1.1.1.1, ⟨hk.1.1.1.2.1, hk.1.1.1.2.2⟩⟩⟩⟩⟩)), (by refine sqt ?_; exact BK170.out), (by refine sqt ?_; exact BK171.out), (by refine sqt ?_; exact BK186.out), (by refine sqt ?_; exact BK191.out), (by refine sqt ?_; exact BK196.out), (by refine sqt ?_; exact BK201.out), (by refine sqt ?_; exact BK233.out), GW233.out, GE233.out, NB170_233.out, NB233_170.out, NB171_233.out, NB233_171.out, NB186_233.out, NB233_186.out, NB191_233.out, NB233_191.out, NB196_233.out, NB233_196.out, NB201_233.out, NB233_201.out, (by repeat (first | (with_reducible first | exact HB.out | apply below_alloc | apply pw_below_drewN | apply below_drew1 | refine below_set ?_ GE170.out | refine below_set ?_ GE171.out | refine below_set ?_ GE186.out | refine below_set ?_ GE191.out | refine below_set ?_ GE196.out | refine below_set ?_ GE201.out | refine below_set ?_ GE233.out) | exact HB.out))⟩)
                              · skip
                                refine box_step ?hg (N := 13) ?hd (cs := #[.int .i64 0, .slice none 0 0]) (t := 29) ?hr ?_; (case hd => rfl); (case hg => rfl); (case hr => first | (go_simp; done) | (go_simp; rfl))
                                intro gb233 hg w178 hbox hb
                                have n0_ := Aside0.mk (Kd.R_below (by (with_reducible repeat (first | apply Kd.R_alloc | apply Kd.R_drewN | apply Kd.R_drew)); exact HO_187001.out) hb)
                                have n1_ := Aside0.mk (Kd.R_below (by (with_reducible repeat (first | apply Kd.R_alloc | apply Kd.R_drewN | apply Kd.R_drew)); exact HO_192001.out) hb)
                                have n2_ := Aside0.mk (Kd.R_below (by (with_reducible repeat (first | apply Kd.R_alloc | apply Kd.R_drewN | apply Kd.R_drew)); exact HO_197001.out) hb)
                                have n3_ := Aside0.mk (Kd.R_below (by (with_reducible repeat (first | apply Kd.R_alloc | apply Kd.R_drewN | apply Kd.R_drew)); exact HO_202001.out) hb)
                                have n4_ := sqb BK170 hb
                                have n5_ := sqb BK171 hb
                                have n6_ := sqb BK186 hb
                                have n7_ := sqb BK191 hb
                                have n8_ := sqb BK196 hb
                                have n9_ := sqb BK201 hb
                                have n10_ := sqs HB hb
                                have n11_ := Aside0.mk (hbox)
                                have n12_ := sqg HB hg
                                have n13_ := sqg HB hg
                                have n14_ := sqn BK170 hg
                                have n15_ := sqm BK170 hg
                                have n16_ := sqn BK171 hg
                                have n17_ := sqm BK171 hg
                                have n18_ := sqn BK186 hg
                                have n19_ := sqm BK186 hg
                                have n20_ := sqn BK191 hg
                                have n21_ := sqm BK191 hg
                                have n22_ := sqn BK196 hg
                                have n23_ := sqm BK196 hg
                                have n24_ := sqn BK201 hg
                                have n25_ := sqm BK201 hg
                                clear HO_187001
                                clear HO_192001
                                clear HO_197001
                                clear HO_202001
                                clear BK170
                                clear BK171
                                clear BK186
                                clear BK191
                                clear BK196
                                clear BK201
                                clear HB
                                have HO_187001 := n0_
                                have HO_192001 := n1_
                                have HO_197001 := n2_
                                have HO_202001 := n3_
                                have BK170 := n4_
                                have BK171 := n5_
                                have BK186 := n6_
                                have BK191 := n7_
                                have BK196 := n8_
                                have BK201 := n9_
                                have HB := n10_
                                have BK233 := n11_
                                have GW233 := n12_
                                have GE233 := n13_
                                have NB170_233 := n14_
                                have NB233_170 := n15_
                                have NB171_233 := n16_
                                have NB233_171 := n17_
                                have NB186_233 := n18_
                                have NB233_186 := n19_
                                have NB191_233 := n20_
                                have NB233_191 := n21_
                                have NB196_233 := n22_
                                have NB233_196 := n23_
                                have NB201_233 := n24_
                                have NB233_201 := n25_
                                clear n0_ n1_ n2_ n3_ n4_ n5_ n6_ n7_ n8_ n9_ n10_ n11_ n12_ n13_ n14_ n15_ n16_ n17_ n18_ n19_ n20_ n21_ n22_ n23_ n24_ n25_
                                clear hb hbox hg
                                refine hK.out _ _ sqz (fun hHeld => ?_)
                                clear hK K
                                refine sqnm ?_
                                refine one_ (i := 1) (N := some 76) #[true, true, true, false, false, true, false] rfl rfl (by kernel_rfl) (by decide) (fun K hK => ?_)
                                refine sqG Try.func16 #[.agg #[.int .i64 a0_0, .slice A0_1 l0_1.length c0_1]] ?_
                                with_reducible refine (laws_toGaps.calls kj34 a0_0 _ _ l0_1 t221 t222 _ ?side1 ?side2 A125.out).mono ?_
                                (case side1 => repeat (first | exact (Kd.C_below HR0_1.out HB.out) | (with_reducible refine Kd.C_alloc ?_ _) | (with_reducible refine Kd.C_drewN ?_ _) | (with_reducible refine Kd.C_drew ?_)))
                                (case side2 => exact HC0_1.out)
                                rintro e w179 ⟨v223, rfl, ho0, hb⟩
                                refine ⟨_, rfl, ?_⟩
                                have n0_ := Aside0.mk (Kd.R_elder' (by (with_reducible repeat (first | apply Kd.R_alloc | apply Kd.R_drewN | apply Kd.R_drew)); exact HO_187001.out) (Kd.R_base ho0) hb)
                                have n1_ := Aside0.mk (Kd.R_elder' (by (with_reducible repeat (first | apply Kd.R_alloc | apply Kd.R_drewN | apply Kd.R_drew)); exact HO_192001.out) (Kd.R_base ho0) hb)
                                have n2_ := Aside0.mk (Kd.R_elder' (by (with_reducible repeat (first | apply Kd.R_alloc | apply Kd.R_drewN | apply Kd.R_drew)); exact HO_197001.out) (Kd.R_base ho0) hb)
                                have n3_ := Aside0.mk (Kd.R_elder' (by (with_reducible repeat (first | apply Kd.R_alloc | apply Kd.R_drewN | apply Kd.R_drew)); exact HO_202001.out) (Kd.R_base ho0) hb)
                                have n4_ := Aside0.mk (Kd.R_lower (Kd.R_new' (Kd.R_new' (Kd.R_new' (Kd.R_new' ho0 (Kd.R_lt (by (with_reducible repeat (first | apply Kd.R_alloc | apply Kd.R_drewN | apply Kd.R_drew)); exact HO_187001.out))) (Kd.R_lt (by (with_reducible repeat (first | apply Kd.R_alloc | apply Kd.R_drewN | apply Kd.R_drew)); exact HO_192001.out))) (Kd.R_lt (by (with_reducible repeat (first | apply Kd.R_alloc | apply Kd.R_drewN | apply Kd.R_drew)); exact HO_197001.out))) (Kd.R_lt (by (with_reducible repeat (first | apply Kd.R_alloc | apply Kd.R_drewN | apply Kd.R_drew)); exact HO_202001.out))) (below_size (by repeat (first | (with_reducible first | exact HB.out | apply below_alloc | apply pw_below_drewN | apply below_drew1 | refine below_set ?_ GE170.out | refine below_set ?_ GE171.out | refine below_set ?_ GE186.out | refine below_set ?_ GE191.out | refine below_set ?_ GE196.out | refine below_set ?_ GE201.out | refine below_set ?_ GE233.out) | exact HB.out))))
                                have n5_ := sqb BK170 hb
                                have n6_ := sqb BK171 hb
                                have n7_ := sqb BK186 hb
                                have n8_ := sqb BK191 hb
                                have n9_ := sqb BK196 hb
                                have n10_ := sqb BK201 hb
                                have n11_ := sqb BK233 hb
                                have n12_ := sqs HB hb
                                clear HO_187001
                                clear HO_192001
                                clear HO_197001
                                clear HO_202001
                                clear BK170
                                clear BK171
                                clear BK186
                                clear BK191
                                clear BK196
                                clear BK201
                                clear BK233
                                clear HB
                                have HO_187001 := n0_
                                have HO_192001 := n1_
                                have HO_197001 := n2_
                                have HO_202001 := n3_
                                have HO224 := n4_
                                have BK170 := n5_
                                have BK171 := n6_
                                have BK186 := n7_
                                have BK191 := n8_
                                have BK196 := n9_
                                have BK201 := n10_
                                have BK233 := n11_
                                have HB := n12_
                                clear n0_ n1_ n2_ n3_ n4_ n5_ n6_ n7_ n8_ n9_ n10_ n11_ n12_
                                (try clear hb)
                                (try clear hb2)
                                (try clear hk)
                                (try clear hi)
                                (try clear ho0)
                                refine hK.out _ _ sqz (fun hHeld => ?_)
                                clear hK K
                                refine sqnm ?_
                                refine one_ (i := 3) (N := some 78) #[true, true, true, true, false, true, false] rfl rfl (by kernel_rfl) (by decide) (fun K hK => ?_)
                                refine sqG Try.func16 #[.agg #[.int .i64 a1_0, .slice A1_1 l1_1.length c1_1]] ?_
                                with_reducible refine (laws_toGaps.calls kj34 a1_0 _ _ l1_1 t225 t226 _ ?side1 ?side2 A126.out).mono ?_
                                (case side1 => repeat (first | exact (Kd.C_below HR1_1.out HB.out) | (with_reducible refine Kd.C_alloc ?_ _) | (with_reducible refine Kd.C_drewN ?_ _) | (with_reducible refine Kd.C_drew ?_)))
                                (case side2 => exact HC1_1.out)
                                rintro e w180 ⟨v227, rfl, ho0, hb⟩
                                refine ⟨_, rfl, ?_⟩
                                have n0_ := Aside0.mk (Kd.R_elder' (by (with_reducible repeat (first | apply Kd.R_alloc | apply Kd.R_drewN | apply Kd.R_drew)); exact HO_187001.out) (Kd.R_base ho0) hb)
                                have n1_ := Aside0.mk (Kd.R_elder' (by (with_reducible repeat (first | apply Kd.R_alloc | apply Kd.R_drewN | apply Kd.R_drew)); exact HO_192001.out) (Kd.R_base ho0) hb)
                                have n2_ := Aside0.mk (Kd.R_elder' (by (with_reducible repeat (first | apply Kd.R_alloc | apply Kd.R_drewN | apply Kd.R_drew)); exact HO_197001.out) (Kd.R_base ho0) hb)
                                have n3_ := Aside0.mk (Kd.R_elder' (by (with_reducible repeat (first | apply Kd.R_alloc | apply Kd.R_drewN | apply Kd.R_drew)); exact HO_202001.out) (Kd.R_base ho0) hb)
                                have n4_ := Aside0.mk (Kd.R_elder' (by (with_reducible repeat (first | apply Kd.R_alloc | apply Kd.R_drewN | apply Kd.R_drew)); exact HO224.out) (Kd.R_base ho0) hb)
                                have n5_ := Aside0.mk (Kd.R_lower (Kd.R_new' (Kd.R_new' (Kd.R_new' (Kd.R_new' (Kd.R_new' ho0 (Kd.R_lt (by (with_reducible repeat (first | apply Kd.R_alloc | apply Kd.R_drewN | apply Kd.R_drew)); exact HO_187001.out))) (Kd.R_lt (by (with_reducible repeat (first | apply Kd.R_alloc | apply Kd.R_drewN | apply Kd.R_drew)); exact HO_192001.out))) (Kd.R_lt (by (with_reducible repeat (first | apply Kd.R_alloc | apply Kd.R_drewN | apply Kd.R_drew)); exact HO_197001.out))) (Kd.R_lt (by (with_reducible repeat (first | apply Kd.R_alloc | apply Kd.R_drewN | apply Kd.R_drew)); exact HO_202001.out))) (Kd.R_lt (by (with_reducible repeat (first | apply Kd.R_alloc | apply Kd.R_drewN | apply Kd.R_drew)); exact HO224.out))) (below_size (by repeat (first | (with_reducible first | exact HB.out | apply below_alloc | apply pw_below_drewN | apply below_drew1 | refine below_set ?_ GE170.out | refine below_set ?_ GE171.out | refine below_set ?_ GE186.out | refine below_set ?_ GE191.out | refine below_set ?_ GE196.out | refine below_set ?_ GE201.out | refine below_set ?_ GE233.out) | exact HB.out))))
                                have n6_ := sqb BK170 hb
                                have n7_ := sqb BK171 hb
                                have n8_ := sqb BK186 hb
                                have n9_ := sqb BK191 hb
                                have n10_ := sqb BK196 hb
                                have n11_ := sqb BK201 hb
                                have n12_ := sqb BK233 hb
                                have n13_ := sqs HB hb
                                clear HO_187001
                                clear HO_192001
                                clear HO_197001
                                clear HO_202001
                                clear HO224
                                clear BK170
                                clear BK171
                                clear BK186
                                clear BK191
                                clear BK196
                                clear BK201
                                clear BK233
                                clear HB
                                have HO_187001 := n0_
                                have HO_192001 := n1_
                                have HO_197001 := n2_
                                have HO_202001 := n3_
                                have HO224 := n4_
                                have HO228 := n5_
                                have BK170 := n6_
                                have BK171 := n7_
                                have BK186 := n8_
                                have BK191 := n9_
                                have BK196 := n10_
                                have BK201 := n11_
                                have BK233 := n12_
                                have HB := n13_
                                clear n0_ n1_ n2_ n3_ n4_ n5_ n6_ n7_ n8_ n9_ n10_ n11_ n12_ n13_
                                (try clear hb)
                                (try clear hb2)
                                (try clear hk)
                                (try clear hi)
                                (try clear ho0)
                                obtain ⟨Ao181, co181, eo181⟩ := Kd.R_slice HO224.out
                                (first | subst eo181 | (injection eo181 with f1_ f2_ f3_; have f4_ := f1_.symm; have f5_ := f3_.symm; clear f1_ f2_ f3_; subst f4_; subst f5_))
                                obtain ⟨Ao182, co182, eo182⟩ := Kd.R_slice HO228.out
                                (first | subst eo182 | (injection eo182 with f1_ f2_ f3_; have f4_ := f1_.symm; have f5_ := f3_.symm; clear f1_ f2_ f3_; subst f4_; subst f5_))
                                refine hK.out _ _ sqz (fun hHeld => ?_)
                                clear hK K
                                refine sqnm ?_
                                refine one_ (i := 4) (N := some 79) #[true, true, true, true, true, true, false] rfl rfl (by kernel_rfl) (by decide) (fun K hK => ?_)
                                refine sqG Try.func25 #[.agg #[.int .i64 t221, .slice Ao181 t222.length co181], .agg #[.int .i64 t225, .slice Ao182 t226.length co182]] ?_
                                with_reducible refine (impl_GapsJoin.calls kj34 t221 _ _ t222 t225 _ _ t226 t229 t230 _ ?side1 ?side2 ?side3 ?side4 A127.out).mono ?_
                                (case side1 => repeat (first | exact (Kd.R_reads' HO224.out).2.2 | (with_reducible refine Kd.C_alloc ?_ _) | (with_reducible refine Kd.C_drewN ?_ _) | (with_reducible refine Kd.C_drew ?_)))
                                (case side2 => exact (Kd.R_reads' HO224.out).2.1)
                                (case side3 => repeat (first | exact (Kd.R_reads' HO228.out).2.2 | (with_reducible refine Kd.C_alloc ?_ _) | (with_reducible refine Kd.C_drewN ?_ _) | (with_reducible refine Kd.C_drew ?_)))
                                (case side4 => exact (Kd.R_reads' HO228.out).2.1)
                                rintro e w183 ⟨v231, rfl, ho0, hb⟩
                                refine ⟨_, rfl, ?_⟩
                                have n0_ := Aside0.mk (Kd.R_elder' (by (with_reducible repeat (first | apply Kd.R_alloc | apply Kd.R_drewN | apply Kd.R_drew)); exact HO_187001.out) (Kd.R_base ho0) hb)
                                have n1_ := Aside0.mk (Kd.R_elder' (by (with_reducible repeat (first | apply Kd.R_alloc | apply Kd.R_drewN | apply Kd.R_drew)); exact HO_192001.out) (Kd.R_base ho0) hb)
                                have n2_ := Aside0.mk (Kd.R_elder' (by (with_reducible repeat (first | apply Kd.R_alloc | apply Kd.R_drewN | apply Kd.R_drew)); exact HO_197001.out) (Kd.R_base ho0) hb)
                                have n3_ := Aside0.mk (Kd.R_elder' (by (with_reducible repeat (first | apply Kd.R_alloc | apply Kd.R_drewN | apply Kd.R_drew)); exact HO_202001.out) (Kd.R_base ho0) hb)
                                have n4_ := Aside0.mk (Kd.R_elder' (by (with_reducible repeat (first | apply Kd.R_alloc | apply Kd.R_drewN | apply Kd.R_drew)); exact HO224.out) (Kd.R_base ho0) hb)
                                have n5_ := Aside0.mk (Kd.R_elder' (by (with_reducible repeat (first | apply Kd.R_alloc | apply Kd.R_drewN | apply Kd.R_drew)); exact HO228.out) (Kd.R_base ho0) hb)
                                have n6_ := Aside0.mk (Kd.R_lower (Kd.R_new' (Kd.R_new' (Kd.R_new' (Kd.R_new' (Kd.R_new' (Kd.R_new' ho0 (Kd.R_lt (by (with_reducible repeat (first | apply Kd.R_alloc | apply Kd.R_drewN | apply Kd.R_drew)); exact HO_187001.out))) (Kd.R_lt (by (with_reducible repeat (first | apply Kd.R_alloc | apply Kd.R_drewN | apply Kd.R_drew)); exact HO_192001.out))) (Kd.R_lt (by (with_reducible repeat (first | apply Kd.R_alloc | apply Kd.R_drewN | apply Kd.R_drew)); exact HO_197001.out))) (Kd.R_lt (by (with_reducible repeat (first | apply Kd.R_alloc | apply Kd.R_drewN | apply Kd.R_drew)); exact HO_202001.out))) (Kd.R_lt (by (with_reducible repeat (first | apply Kd.R_alloc | apply Kd.R_drewN | apply Kd.R_drew)); exact HO224.out))) (Kd.R_lt (by (with_reducible repeat (first | apply Kd.R_alloc | apply Kd.R_drewN | apply Kd.R_drew)); exact HO228.out))) (below_size (by repeat (first | (with_reducible first | exact HB.out | apply below_alloc | apply pw_below_drewN | apply below_drew1 | refine below_set ?_ GE170.out | refine below_set ?_ GE171.out | refine below_set ?_ GE186.out | refine below_set ?_ GE191.out | refine below_set ?_ GE196.out | refine below_set ?_ GE201.out | refine below_set ?_ GE233.out) | exact HB.out))))
                                have n7_ := sqb BK170 hb
                                have n8_ := sqb BK171 hb
                                have n9_ := sqb BK186 hb
                                have n10_ := sqb BK191 hb
                                have n11_ := sqb BK196 hb
                                have n12_ := sqb BK201 hb
                                have n13_ := sqb BK233 hb
                                have n14_ := sqs HB hb
                                clear HO_187001
                                clear HO_192001
                                clear HO_197001
                                clear HO_202001
                                clear HO224
                                clear HO228
                                clear BK170
                                clear BK171
                                clear BK186
                                clear BK191
                                clear BK196
                                clear BK201
                                clear BK233
                                clear HB
                                have HO_187001 := n0_
                                have HO_192001 := n1_
                                have HO_197001 := n2_
                                have HO_202001 := n3_
                                have HO224 := n4_
                                have HO228 := n5_
                                have HO232 := n6_
                                have BK170 := n7_
                                have BK171 := n8_
                                have BK186 := n9_
                                have BK191 := n10_
                                have BK196 := n11_
                                have BK201 := n12_
                                have BK233 := n13_
                                have HB := n14_
                                clear n0_ n1_ n2_ n3_ n4_ n5_ n6_ n7_ n8_ n9_ n10_ n11_ n12_ n13_ n14_
                                (try clear hb)
                                (try clear hb2)
                                (try clear hk)
                                (try clear hi)
                                (try clear ho0)
                                refine hK.out _ _ sqz (fun hHeld => ?_)
                                clear hK K
                                refine sqnm ?_
                                exact norm_ (by simp only [putAll, Act.put, List.setIfInBounds_toArray, List.set_cons_zero, List.set_cons_succ]) (hCont (.slice Ao181 t222.length co181, .slice Ao182 t226.length co182, v231, gb233) _ ⟨hHeld, (by (with_reducible repeat (first | apply Kd.R_alloc | apply Kd.R_drewN | apply Kd.R_drew)); exact Kd.R_mono HO224.out (fun _ hk => ⟨hk.1.2, ⟨hk.2, ⟨hk.1.1.1.1.1.2, ⟨hk.1.1.1.1.2, ⟨hk.1.1.1.2, hk.1.1.2⟩⟩⟩⟩⟩)), (by (with_reducible repeat (first | apply Kd.R_alloc | apply Kd.R_drewN | apply Kd.R_drew)); exact Kd.R_mono HO228.out (fun _ hk => ⟨hk.1.2, ⟨hk.2, ⟨hk.1.1.1.1.1.2, ⟨hk.1.1.1.1.2, ⟨hk.1.1.1.2, hk.1.1.2⟩⟩⟩⟩⟩)), (by (with_reducible repeat (first | apply Kd.R_alloc | apply Kd.R_drewN | apply Kd.R_drew)); exact Kd.R_mono HO232.out (fun _ hk => ⟨hk.1.2, ⟨hk.2, ⟨hk.1.1.1.1.1.2, ⟨hk.1.1.1.1.2, ⟨hk.1.1.1.2, hk.1.1.2⟩⟩⟩⟩⟩)), (by (with_reducible repeat (first | apply Kd.R_alloc | apply Kd.R_drewN | apply Kd.R_drew)); exact Kd.R_mono HO_187001.out (fun _ hk => ⟨hk.1.1.2, ⟨hk.1.2, ⟨hk.2, ⟨hk.1.1.1.1, ⟨hk.1.1.1.2.1, hk.1.1.1.2.2⟩⟩⟩⟩⟩)), (by (with_reducible repeat (first | apply Kd.R_alloc | apply Kd.R_drewN | apply Kd.R_drew)); exact Kd.R_mono HO_192001.out (fun _ hk => ⟨hk.1.1.2, ⟨hk.1.2, ⟨hk.2, ⟨hk.1.1.1.1, ⟨hk.1.1.1.2.1, hk.1.1.1.2.2⟩⟩⟩⟩⟩)), (by (with_reducible repeat (first | apply Kd.R_alloc | apply Kd.R_drewN | apply Kd.R_drew)); exact Kd.R_mono HO_197001.out (fun _ hk => ⟨hk.1.1.2, ⟨hk.1.2, ⟨hk.2, ⟨hk.1.1.1.1, ⟨hk.1.1.1.2.1, hk.1.1.1.2.2⟩⟩⟩⟩⟩)), (by (with_reducible repeat (first | apply Kd.R_alloc | apply Kd.R_drewN | apply Kd.R_drew)); exact Kd.R_mono HO_202001.out (fun _ hk => ⟨hk.1.1.2, ⟨hk.1.2, ⟨hk.2, ⟨hk.1.1.1.1, ⟨hk.1.1.1.2.1, hk.1.1.1.2.2⟩⟩⟩⟩⟩)), (by refine sqt ?_; exact BK170.out), (by refine sqt ?_; exact BK171.out), (by refine sqt ?_; exact BK186.out), (by refine sqt ?_; exact BK191.out), (by refine sqt ?_; exact BK196.out), (by refine sqt ?_; exact BK201.out), (by refine sqt ?_; exact BK233.out), GW233.out, GE233.out, NB170_233.out, NB233_170.out, NB171_233.out, NB233_171.out, NB186_233.out, NB233_186.out, NB191_233.out, NB233_191.out, NB196_233.out, NB233_196.out, NB201_233.out, NB233_201.out, (by repeat (first | (with_reducible first | exact HB.out | apply below_alloc | apply pw_below_drewN | apply below_drew1 | refine below_set ?_ GE170.out | refine below_set ?_ GE171.out | refine below_set ?_ GE186.out | refine below_set ?_ GE191.out | refine below_set ?_ GE196.out | refine below_set ?_ GE201.out | refine below_set ?_ GE233.out) | exact HB.out))⟩)
                            rintro ⟨v223, v227, v231, gb233⟩ w184 ⟨hS_, h0_, h1_, h2_, h3_, h4_, h5_, h6_, h7_, h8_, h9_, h10_, h11_, h12_, h13_, h14_, h15_, h16_, h17_, h18_, h19_, h20_, h21_, h22_, h23_, h24_, h25_, h26_, h27_, h28_⟩
                            have n0_ : Aside0 (Kd.R (Kd.int .i64) 3 w184 w.heap.size (fun k_ => some k_ ≠ (v227 : Value).ownBlock ∧ some k_ ≠ (v231 : Value).ownBlock ∧ some k_ ≠ (.slice Ao52 t183.length co52 : Value).ownBlock ∧ some k_ ≠ (.slice Ao62 t214.length co62 : Value).ownBlock ∧ some k_ ≠ (.slice Ao72 t216.length co72 : Value).ownBlock ∧ some k_ ≠ (.slice Ao82 t198.length co82 : Value).ownBlock) v223 t222) := ⟨h0_⟩
                            have n1_ : Aside0 (Kd.R (Kd.int .i64) 3 w184 w.heap.size (fun k_ => some k_ ≠ (v223 : Value).ownBlock ∧ some k_ ≠ (v231 : Value).ownBlock ∧ some k_ ≠ (.slice Ao52 t183.length co52 : Value).ownBlock ∧ some k_ ≠ (.slice Ao62 t214.length co62 : Value).ownBlock ∧ some k_ ≠ (.slice Ao72 t216.length co72 : Value).ownBlock ∧ some k_ ≠ (.slice Ao82 t198.length co82 : Value).ownBlock) v227 t226) := ⟨h1_⟩
                            have n2_ : Aside0 (Kd.R (Kd.int .i64) 3 w184 w.heap.size (fun k_ => some k_ ≠ (v223 : Value).ownBlock ∧ some k_ ≠ (v227 : Value).ownBlock ∧ some k_ ≠ (.slice Ao52 t183.length co52 : Value).ownBlock ∧ some k_ ≠ (.slice Ao62 t214.length co62 : Value).ownBlock ∧ some k_ ≠ (.slice Ao72 t216.length co72 : Value).ownBlock ∧ some k_ ≠ (.slice Ao82 t198.length co82 : Value).ownBlock) v231 t230) := ⟨h2_⟩
                            have n3_ : Aside0 (Kd.R (Kd.int .i64) 3 w184 w.heap.size (fun k_ => some k_ ≠ (v223 : Value).ownBlock ∧ some k_ ≠ (v227 : Value).ownBlock ∧ some k_ ≠ (v231 : Value).ownBlock ∧ some k_ ≠ (.slice Ao62 t214.length co62 : Value).ownBlock ∧ some k_ ≠ (.slice Ao72 t216.length co72 : Value).ownBlock ∧ some k_ ≠ (.slice Ao82 t198.length co82 : Value).ownBlock) (.slice Ao52 t183.length co52) t183) := ⟨h3_⟩
                            have n4_ : Aside0 (Kd.R (Kd.int .i64) 3 w184 w.heap.size (fun k_ => some k_ ≠ (v223 : Value).ownBlock ∧ some k_ ≠ (v227 : Value).ownBlock ∧ some k_ ≠ (v231 : Value).ownBlock ∧ some k_ ≠ (.slice Ao52 t183.length co52 : Value).ownBlock ∧ some k_ ≠ (.slice Ao72 t216.length co72 : Value).ownBlock ∧ some k_ ≠ (.slice Ao82 t198.length co82 : Value).ownBlock) (.slice Ao62 t214.length co62) t214) := ⟨h4_⟩
                            have n5_ : Aside0 (Kd.R (Kd.int .i64) 3 w184 w.heap.size (fun k_ => some k_ ≠ (v223 : Value).ownBlock ∧ some k_ ≠ (v227 : Value).ownBlock ∧ some k_ ≠ (v231 : Value).ownBlock ∧ some k_ ≠ (.slice Ao52 t183.length co52 : Value).ownBlock ∧ some k_ ≠ (.slice Ao62 t214.length co62 : Value).ownBlock ∧ some k_ ≠ (.slice Ao82 t198.length co82 : Value).ownBlock) (.slice Ao72 t216.length co72) t216) := ⟨h5_⟩
                            have n6_ : Aside0 (Kd.R (Kd.int .i64) 3 w184 w.heap.size (fun k_ => some k_ ≠ (v223 : Value).ownBlock ∧ some k_ ≠ (v227 : Value).ownBlock ∧ some k_ ≠ (v231 : Value).ownBlock ∧ some k_ ≠ (.slice Ao52 t183.length co52 : Value).ownBlock ∧ some k_ ≠ (.slice Ao62 t214.length co62 : Value).ownBlock ∧ some k_ ≠ (.slice Ao72 t216.length co72 : Value).ownBlock) (.slice Ao82 t198.length co82) t219) := ⟨h6_⟩
                            have n7_ : Aside0 (w184.heap[gb170]? = some (.cells #[.int .i64 a0_0, .slice A0_1 l0_1.length c0_1] 24 (0, 0))) := ⟨h7_⟩
                            have n8_ : Aside0 (w184.heap[gb171]? = some (.cells #[.int .i64 a1_0, .slice A1_1 l1_1.length c1_1] 24 (0, 0))) := ⟨h8_⟩
                            have n9_ : Aside0 (w184.heap[gb186]? = some (.cells #[.int .i64 t182, .slice Ao52 t183.length co52] 29 (0, 0))) := ⟨h9_⟩
                            have n10_ : Aside0 (w184.heap[gb191]? = some (.cells #[.int .i64 t187, .slice Ao62 t214.length co62] 29 (0, 0))) := ⟨h10_⟩
                            have n11_ : Aside0 (w184.heap[gb196]? = some (.cells #[.int .i64 t192, .slice Ao72 t216.length co72] 29 (0, 0))) := ⟨h11_⟩
                            have n12_ : Aside0 (w184.heap[gb201]? = some (.cells #[.int .i64 t197, .slice Ao82 t198.length co82] 29 (0, 0))) := ⟨h12_⟩
                            have n13_ : Aside0 (w184.heap[gb233]? = some (.cells #[.int .i64 0, .slice none 0 0] 29 (0, 0))) := ⟨h13_⟩
                            have n14_ : Aside0 (w.heap.size ≤ gb233) := ⟨h14_⟩
                            have n15_ : Aside0 (w.heap.size ≤ gb233) := ⟨h15_⟩
                            have n16_ : Aside0 (gb170 ≠ gb233) := ⟨h16_⟩
                            have n17_ : Aside0 (gb233 ≠ gb170) := ⟨h17_⟩
                            have n18_ : Aside0 (gb171 ≠ gb233) := ⟨h18_⟩
                            have n19_ : Aside0 (gb233 ≠ gb171) := ⟨h19_⟩
                            have n20_ : Aside0 (gb186 ≠ gb233) := ⟨h20_⟩
                            have n21_ : Aside0 (gb233 ≠ gb186) := ⟨h21_⟩
                            have n22_ : Aside0 (gb191 ≠ gb233) := ⟨h22_⟩
                            have n23_ : Aside0 (gb233 ≠ gb191) := ⟨h23_⟩
                            have n24_ : Aside0 (gb196 ≠ gb233) := ⟨h24_⟩
                            have n25_ : Aside0 (gb233 ≠ gb196) := ⟨h25_⟩
                            have n26_ : Aside0 (gb201 ≠ gb233) := ⟨h26_⟩
                            have n27_ : Aside0 (gb233 ≠ gb201) := ⟨h27_⟩
                            have n28_ : Aside0 (Below w.heap.size w w184) := ⟨h28_⟩
                            clear HO_187001
                            clear HO_192001
                            clear HO_197001
                            clear HO_202001
                            clear BK170
                            clear BK171
                            clear BK186
                            clear BK191
                            clear BK196
                            clear BK201
                            clear HB
                            clear h0_ h1_ h2_ h3_ h4_ h5_ h6_ h7_ h8_ h9_ h10_ h11_ h12_ h13_ h14_ h15_ h16_ h17_ h18_ h19_ h20_ h21_ h22_ h23_ h24_ h25_ h26_ h27_ h28_
                            have HO224 := n0_
                            have HO228 := n1_
                            have HO232 := n2_
                            have HO_187001 := n3_
                            have HO_192001 := n4_
                            have HO_197001 := n5_
                            have HO_202001 := n6_
                            have BK170 := n7_
                            have BK171 := n8_
                            have BK186 := n9_
                            have BK191 := n10_
                            have BK196 := n11_
                            have BK201 := n12_
                            have BK233 := n13_
                            have GW233 := n14_
                            have GE233 := n15_
                            have NB170_233 := n16_
                            have NB233_170 := n17_
                            have NB171_233 := n18_
                            have NB233_171 := n19_
                            have NB186_233 := n20_
                            have NB233_186 := n21_
                            have NB191_233 := n22_
                            have NB233_191 := n23_
                            have NB196_233 := n24_
                            have NB233_196 := n25_
                            have NB201_233 := n26_
                            have NB233_201 := n27_
                            have HB := n28_
                            clear n0_ n1_ n2_ n3_ n4_ n5_ n6_ n7_ n8_ n9_ n10_ n11_ n12_ n13_ n14_ n15_ n16_ n17_ n18_ n19_ n20_ n21_ n22_ n23_ n24_ n25_ n26_ n27_ n28_
                            have hHeld : w184.cell? ⟨gb170, 0, none⟩ = some (.int .i64 a0_0) ∧ w184.cell? ⟨gb170, 1, none⟩ = some (.slice A0_1 l0_1.length c0_1) ∧ w184.cell? ⟨gb171, 0, none⟩ = some (.int .i64 a1_0) ∧ w184.cell? ⟨gb171, 1, none⟩ = some (.slice A1_1 l1_1.length c1_1) := hS_
                            obtain ⟨Ao186, co186, eo186⟩ := Kd.R_slice HO232.out
                            (first | subst eo186 | (injection eo186 with f1_ f2_ f3_; have f4_ := f1_.symm; have f5_ := f3_.symm; clear f1_ f2_ f3_; subst f4_; subst f5_))
                            refine norm_ (a' := ?_) ?_ ?_
                            rotate_left
                            · simp only [putAll, Act.put, List.setIfInBounds_toArray, List.set_cons_zero, List.set_cons_succ]
                              rfl
                            refine one_ (i := 6) (N := none) #[true, true, true, true, true, true, true] rfl rfl (by kernel_rfl) (by decide) (fun K hK => ?_)
                            have hs185 : w184.cell? ⟨gb233, 0, none⟩ = some (.int .i64 0) := (blk_cell BK233.out 0).trans rfl
                            have hfs185 := blk_frozen BK233.out 0
                            have hns185_0 := NB170_233.out
                            have hns185_1 := NB171_233.out
                            have hns185_2 := NB186_233.out
                            have hns185_3 := NB191_233.out
                            have hns185_4 := NB196_233.out
                            have hns185_5 := NB201_233.out
                            have hms185_0 := NB233_170.out
                            have hms185_1 := NB233_171.out
                            have hms185_2 := NB233_186.out
                            have hms185_3 := NB233_191.out
                            have hms185_4 := NB233_196.out
                            have hms185_5 := NB233_201.out
                            have hs187 : w184.cell? ⟨gb233, 1, none⟩ = some (.slice none 0 0) := (blk_cell BK233.out 1).trans rfl
                            have hfs187 := blk_frozen BK233.out 1
                            have hns187_0 := NB170_233.out
                            have hns187_1 := NB171_233.out
                            have hns187_2 := NB186_233.out
                            have hns187_3 := NB191_233.out
                            have hns187_4 := NB196_233.out
                            have hns187_5 := NB201_233.out
                            have hms187_0 := NB233_170.out
                            have hms187_1 := NB233_171.out
                            have hms187_2 := NB233_186.out
                            have hms187_3 := NB233_191.out
                            have hms187_4 := NB233_196.out
                            have hms187_5 := NB233_201.out
                            refine skip_ (w1 := ?_) (by rfl) rfl ?_ ?_
                            rotate_left
                            · go_simp
                              rfl
                            refine hK.out _ _ ⟨((cell_far (p := ⟨gb233, _, none⟩) NB170_233.out _).trans (((cell_far (p := ⟨gb233, _, none⟩) NB170_233.out _).trans (hHeld.1)))), ((cell_far (p := ⟨gb233, _, none⟩) NB170_233.out _).trans (((cell_far (p := ⟨gb233, _, none⟩) NB170_233.out _).trans (hHeld.2.1)))), ((cell_far (p := ⟨gb233, _, none⟩) NB171_233.out _).trans (((cell_far (p := ⟨gb233, _, none⟩) NB171_233.out _).trans (hHeld.2.2.1)))), ((cell_far (p := ⟨gb233, _, none⟩) NB171_233.out _).trans (((cell_far (p := ⟨gb233, _, none⟩) NB171_233.out _).trans (hHeld.2.2.2))))⟩ (fun hHeld => ?_)
                            clear hK K
                            refine done_ (by kernel_rfl) ?_
                            have hnb188 := NB233_170.out
                            have hnc188 := NB170_233.out
                            have hnb189 := NB233_171.out
                            have hnc189 := NB171_233.out
                            have hnb190 := NB233_186.out
                            have hnc190 := NB186_233.out
                            have hnb191 := NB233_191.out
                            have hnc191 := NB191_233.out
                            have hnb192 := NB233_196.out
                            have hnc192 := NB196_233.out
                            have hnb193 := NB233_201.out
                            have hnc193 := NB201_233.out
                            obtain ⟨hcz194_0, hcz194_1, hfz194_0, hfz194_1⟩ := sqc2 BK233
                            have hnb195 := NB186_170.out
                            have hnc195 := NB170_186.out
                            have hnb196 := NB186_171.out
                            have hnc196 := NB171_186.out
                            have hnb197 := NB186_191.out
                            have hnc197 := NB191_186.out
                            have hnb198 := NB186_196.out
                            have hnc198 := NB196_186.out
                            obtain ⟨hcz199_0, hcz199_1, hfz199_0, hfz199_1⟩ := sqc2 BK186
                            try go_wp2_with (first | ((with_reducible refine gate_callee (f := 19) rfl ?_); refine sqL (some 82) Try.func19 #[.agg #[.int .i64 t229, .slice Ao186 t230.length co186], .agg #[.int .i64 t182, .slice Ao52 t183.length co52]] ?_; (with_reducible refine (laws_eqGaps.calls kj34 t229 _ _ t230 t182 _ _ t183 true _ ?side1 ?side2 ?side3 ?side4 A128.out).mono ?_); (case side1 => refine (Kd.R_reads' (e := 3) (base := w.heap.size) (ok := fun k_ => (some k_ ≠ (v223 : Value).ownBlock ∧ (some k_ ≠ (v227 : Value).ownBlock ∧ (some k_ ≠ (.slice Ao52 t183.length co52 : Value).ownBlock ∧ (some k_ ≠ (.slice Ao62 t214.length co62 : Value).ownBlock ∧ (some k_ ≠ (.slice Ao72 t216.length co72 : Value).ownBlock ∧ some k_ ≠ (.slice Ao82 t198.length co82 : Value).ownBlock)))))) (n := t230.length) (c := co186) ?_).2.2; exact (by (with_reducible repeat (first | apply Kd.R_alloc | apply Kd.R_drewN | apply Kd.R_drew)); exact (Kd.R_mono (Kd.R_far (p := ⟨gb233, 1, none⟩) (Kd.R_far (p := ⟨gb233, 0, none⟩) (Kd.R_types HO232.out BK233.out (by decide)) (fun _ hk => hk.2) (.int .i64 t229)) (fun _ hk => hk.2) (.slice Ao186 t230.length co186)) (fun _ h_ => h_.1)))); (case side2 => exact (Kd.R_reads' HO232.out).2.1); (case side3 => refine (Kd.R_reads' (e := 3) (base := w.heap.size) (ok := fun k_ => (some k_ ≠ (v223 : Value).ownBlock ∧ (some k_ ≠ (v227 : Value).ownBlock ∧ (some k_ ≠ (.slice Ao186 t230.length co186 : Value).ownBlock ∧ (some k_ ≠ (.slice Ao62 t214.length co62 : Value).ownBlock ∧ (some k_ ≠ (.slice Ao72 t216.length co72 : Value).ownBlock ∧ some k_ ≠ (.slice Ao82 t198.length co82 : Value).ownBlock)))))) (n := t183.length) (c := co52) ?_).2.2; exact (by (with_reducible repeat (first | apply Kd.R_alloc | apply Kd.R_drewN | apply Kd.R_drew)); exact (Kd.R_mono (Kd.R_far (p := ⟨gb233, 1, none⟩) (Kd.R_far (p := ⟨gb233, 0, none⟩) (Kd.R_types HO_187001.out BK233.out (by decide)) (fun _ hk => hk.2) (.int .i64 t229)) (fun _ hk => hk.2) (.slice Ao186 t230.length co186)) (fun _ h_ => h_.1)))); (case side4 => exact (Kd.R_reads' HO_187001.out).2.1); rintro e w200 ⟨rfl, hb⟩; refine ⟨_, rfl, ?_⟩; have n0_ := Aside0.mk (Kd.R_below (by (with_reducible repeat (first | apply Kd.R_alloc | apply Kd.R_drewN | apply Kd.R_drew)); exact (Kd.R_mono (Kd.R_far (p := ⟨gb233, 1, none⟩) (Kd.R_far (p := ⟨gb233, 0, none⟩) (Kd.R_types HO_187001.out BK233.out (by decide)) (fun _ hk => hk.2) (.int .i64 t229)) (fun _ hk => hk.2) (.slice Ao186 t230.length co186)) (fun _ h_ => h_.1))) hb); have n1_ := Aside0.mk (Kd.R_below (by (with_reducible repeat (first | apply Kd.R_alloc | apply Kd.R_drewN | apply Kd.R_drew)); exact (Kd.R_mono (Kd.R_far (p := ⟨gb233, 1, none⟩) (Kd.R_far (p := ⟨gb233, 0, none⟩) (Kd.R_types HO_192001.out BK233.out (by decide)) (fun _ hk => hk.2) (.int .i64 t229)) (fun _ hk => hk.2) (.slice Ao186 t230.length co186)) (fun _ h_ => h_.1))) hb); have n2_ := Aside0.mk (Kd.R_below (by (with_reducible repeat (first | apply Kd.R_alloc | apply Kd.R_drewN | apply Kd.R_drew)); exact (Kd.R_mono (Kd.R_far (p := ⟨gb233, 1, none⟩) (Kd.R_far (p := ⟨gb233, 0, none⟩) (Kd.R_types HO_197001.out BK233.out (by decide)) (fun _ hk => hk.2) (.int .i64 t229)) (fun _ hk => hk.2) (.slice Ao186 t230.length co186)) (fun _ h_ => h_.1))) hb); have n3_ := Aside0.mk (Kd.R_below (by (with_reducible repeat (first | apply Kd.R_alloc | apply Kd.R_drewN | apply Kd.R_drew)); exact (Kd.R_mono (Kd.R_far (p := ⟨gb233, 1, none⟩) (Kd.R_far (p := ⟨gb233, 0, none⟩) (Kd.R_types HO_202001.out BK233.out (by decide)) (fun _ hk => hk.2) (.int .i64 t229)) (fun _ hk => hk.2) (.slice Ao186 t230.length co186)) (fun _ h_ => h_.1))) hb); have n4_ := Aside0.mk (Kd.R_below (by (with_reducible repeat (first | apply Kd.R_alloc | apply Kd.R_drewN | apply Kd.R_drew)); exact (Kd.R_mono (Kd.R_far (p := ⟨gb233, 1, none⟩) (Kd.R_far (p := ⟨gb233, 0, none⟩) (Kd.R_types HO224.out BK233.out (by decide)) (fun _ hk => hk.2) (.int .i64 t229)) (fun _ hk => hk.2) (.slice Ao186 t230.length co186)) (fun _ h_ => h_.1))) hb); have n5_ := Aside0.mk (Kd.R_below (by (with_reducible repeat (first | apply Kd.R_alloc | apply Kd.R_drewN | apply Kd.R_drew)); exact (Kd.R_mono (Kd.R_far (p := ⟨gb233, 1, none⟩) (Kd.R_far (p := ⟨gb233, 0, none⟩) (Kd.R_types HO228.out BK233.out (by decide)) (fun _ hk => hk.2) (.int .i64 t229)) (fun _ hk => hk.2) (.slice Ao186 t230.length co186)) (fun _ h_ => h_.1))) hb); have n6_ := Aside0.mk (Kd.R_below (by (with_reducible repeat (first | apply Kd.R_alloc | apply Kd.R_drewN | apply Kd.R_drew)); exact (Kd.R_mono (Kd.R_far (p := ⟨gb233, 1, none⟩) (Kd.R_far (p := ⟨gb233, 0, none⟩) (Kd.R_types HO232.out BK233.out (by decide)) (fun _ hk => hk.2) (.int .i64 t229)) (fun _ hk => hk.2) (.slice Ao186 t230.length co186)) (fun _ h_ => h_.1))) hb); have n7_ := Aside0.mk (blk_below (g := gb170) (o := .cells #[.int .i64 a0_0, .slice A0_1 l0_1.length c0_1] 24 (0, 0)) (by refine sqt ?_; refine blk_far ?_ NB170_233.out _; refine sqt ?_; refine blk_far ?_ NB170_233.out _; refine sqt ?_; exact BK170.out) hb); have n8_ := Aside0.mk (blk_below (g := gb171) (o := .cells #[.int .i64 a1_0, .slice A1_1 l1_1.length c1_1] 24 (0, 0)) (by refine sqt ?_; refine blk_far ?_ NB171_233.out _; refine sqt ?_; refine blk_far ?_ NB171_233.out _; refine sqt ?_; exact BK171.out) hb); have n9_ := Aside0.mk (blk_below (g := gb186) (o := .cells #[.int .i64 t182, .slice Ao52 t183.length co52] 29 (0, 0)) (by refine sqt ?_; refine blk_far ?_ NB186_233.out _; refine sqt ?_; refine blk_far ?_ NB186_233.out _; refine sqt ?_; exact BK186.out) hb); have n10_ := Aside0.mk (blk_below (g := gb191) (o := .cells #[.int .i64 t187, .slice Ao62 t214.length co62] 29 (0, 0)) (by refine sqt ?_; refine blk_far ?_ NB191_233.out _; refine sqt ?_; refine blk_far ?_ NB191_233.out _; refine sqt ?_; exact BK191.out) hb); have n11_ := Aside0.mk (blk_below (g := gb196) (o := .cells #[.int .i64 t192, .slice Ao72 t216.length co72] 29 (0, 0)) (by refine sqt ?_; refine blk_far ?_ NB196_233.out _; refine sqt ?_; refine blk_far ?_ NB196_233.out _; refine sqt ?_; exact BK196.out) hb); have n12_ := Aside0.mk (blk_below (g := gb201) (o := .cells #[.int .i64 t197, .slice Ao82 t198.length co82] 29 (0, 0)) (by refine sqt ?_; refine blk_far ?_ NB201_233.out _; refine sqt ?_; refine blk_far ?_ NB201_233.out _; refine sqt ?_; exact BK201.out) hb); have n13_ := Aside0.mk (blk_below (g := gb233) (o := .cells #[.int .i64 t229, .slice Ao186 t230.length co186] 29 (0, 0)) (by refine sqt ?_; refine blk_put (cs := #[.int .i64 t229, .slice none 0 0]) ?_ 1 _ rfl; refine sqt ?_; refine blk_put (cs := #[.int .i64 0, .slice none 0 0]) ?_ 0 _ rfl; refine sqt ?_; exact BK233.out) hb); have n14_ := sqs HB hb; clear HO_187001; clear HO_192001; clear HO_197001; clear HO_202001; clear HO224; clear HO228; clear HO232; clear BK170; clear BK171; clear BK186; clear BK191; clear BK196; clear BK201; clear BK233; clear HB; have HO_187001 := n0_; have HO_192001 := n1_; have HO_197001 := n2_; have HO_202001 := n3_; have HO224 := n4_; have HO228 := n5_; have HO232 := n6_; have BK170 := n7_; have BK171 := n8_; have BK186 := n9_; have BK191 := n10_; have BK196 := n11_; have BK201 := n12_; have BK233 := n13_; have HB := n14_; clear n0_ n1_ n2_ n3_ n4_ n5_ n6_ n7_ n8_ n9_ n10_ n11_ n12_ n13_ n14_; (try clear hb); (try clear hb2); (try clear hk); (try clear hi); obtain ⟨hcz201_0, hcz201_1, hfz201_0, hfz201_1⟩ := sqc2 BK201) | ((with_reducible refine gate_callee (f := 23) rfl ?_); refine goesL_ (some 86) rfl rfl Try.func23 (by kernel_rfl) rfl #[.agg #[.int .i64 t197, .slice Ao82 t219.length co82], .int .i64 1] rfl (by (try simp only [List.map_toArray, List.map_cons, List.map_nil]); first | done | (rw [show t219.length = t198.length from (Kd.R_reads' HO_202001.out).1.symm] <;> rfl) | rfl | (simp only [List.length_drop, List.length_take]; rfl)) ?_; (with_reducible refine (laws_heldGaps.calls kj34 t197 _ _ t219 1 t235 _ ?side1 ?side2 A130.out).mono ?_); (case side1 => repeat (first | exact (Kd.R_reads' HO_202001.out).2.2 | (with_reducible refine Kd.C_alloc ?_ _) | (with_reducible refine Kd.C_drewN ?_ _) | (with_reducible refine Kd.C_drew ?_))); (case side2 => rw [show t219.length = t198.length from (Kd.R_reads' HO_202001.out).1.symm]; exact (Kd.R_reads' HO_202001.out).2.1); rintro e w202 ⟨rfl, hb⟩; refine ⟨_, rfl, ?_⟩; have n0_ := Aside0.mk (Kd.R_below (by (with_reducible repeat (first | apply Kd.R_alloc | apply Kd.R_drewN | apply Kd.R_drew)); exact HO_187001.out) hb); have n1_ := Aside0.mk (Kd.R_below (by (with_reducible repeat (first | apply Kd.R_alloc | apply Kd.R_drewN | apply Kd.R_drew)); exact HO_192001.out) hb); have n2_ := Aside0.mk (Kd.R_below (by (with_reducible repeat (first | apply Kd.R_alloc | apply Kd.R_drewN | apply Kd.R_drew)); exact HO_197001.out) hb); have n3_ := Aside0.mk (Kd.R_below (by (with_reducible repeat (first | apply Kd.R_alloc | apply Kd.R_drewN | apply Kd.R_drew)); exact HO_202001.out) hb); have n4_ := Aside0.mk (Kd.R_below (by (with_reducible repeat (first | apply Kd.R_alloc | apply Kd.R_drewN | apply Kd.R_drew)); exact HO224.out) hb); have n5_ := Aside0.mk (Kd.R_below (by (with_reducible repeat (first | apply Kd.R_alloc | apply Kd.R_drewN | apply Kd.R_drew)); exact HO228.out) hb); have n6_ := Aside0.mk (Kd.R_below (by (with_reducible repeat (first | apply Kd.R_alloc | apply Kd.R_drewN | apply Kd.R_drew)); exact HO232.out) hb); have n7_ := sqb BK170 hb; have n8_ := sqb BK171 hb; have n9_ := sqb BK186 hb; have n10_ := sqb BK191 hb; have n11_ := sqb BK196 hb; have n12_ := sqb BK201 hb; have n13_ := sqb BK233 hb; have n14_ := sqs HB hb; clear HO_187001; clear HO_192001; clear HO_197001; clear HO_202001; clear HO224; clear HO228; clear HO232; clear BK170; clear BK171; clear BK186; clear BK191; clear BK196; clear BK201; clear BK233; clear HB; have HO_187001 := n0_; have HO_192001 := n1_; have HO_197001 := n2_; have HO_202001 := n3_; have HO224 := n4_; have HO228 := n5_; have HO232 := n6_; have BK170 := n7_; have BK171 := n8_; have BK186 := n9_; have BK191 := n10_; have BK196 := n11_; have BK201 := n12_; have BK233 := n13_; have HB := n14_; clear n0_ n1_ n2_ n3_ n4_ n5_ n6_ n7_ n8_ n9_ n10_ n11_ n12_ n13_ n14_; (try clear hb)))
                            go_ret
                            exact sqe HB
                          · rw [if_neg c167] at H
                            have c167b0 : (t235 == t218) = false := beq_eq_false_iff_ne.mpr c167
                            have c167b1 : (t235 != t218) = true := bne_iff_ne.mpr c167
                            exact absurd (Option.some.inj H) (by decide)
                      · replace c129 := Bool.eq_false_iff.mpr c129
                        subst c129
                        have H1 : (some false) = some true := by rw [if_neg (show ¬ (false = true) by decide)] at H; exact H
                        clear H
                        have H := H1
                        clear H1
                        exact absurd (Option.some.inj H) (by decide)
                    · rw [if_neg c124] at H
                      have c124b0 : (t220 == t218) = false := beq_eq_false_iff_ne.mpr c124
                      have c124b1 : (t220 != t218) = true := bne_iff_ne.mpr c124
                      exact absurd (Option.some.inj H) (by decide)
          · replace c32 := Bool.eq_false_iff.mpr c32
            subst c32
            have H1 : (some false) = some true := by rw [if_neg (show ¬ (false = true) by decide)] at H; exact H
            clear H
            have H := H1
            clear H1
            exact absurd (Option.some.inj H) (by decide)
        · replace c29 := Bool.eq_false_iff.mpr c29
          subst c29
          have H1 : (some false) = some true := by rw [if_neg (show ¬ (false = true) by decide)] at H; exact H
          clear H
          have H := H1
          clear H1
          exact absurd (Option.some.inj H) (by decide)
      · replace c26 := Bool.eq_false_iff.mpr c26
        subst c26
        have H1 : (some false) = some true := by rw [if_neg (show ¬ (false = true) by decide)] at H; exact H
        clear H
        have H := H1
        clear H1
        exact absurd (Option.some.inj H) (by decide)
end Go.Proofs.Ytmdcgkkkfncieaa.PFnExactGapsJoin
