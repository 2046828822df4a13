/- Functions of the program as plain Lean functions, and that calls of them come to what these tell. Conditions: those in each law. -/
import Derived.Test.YtmdcgkkkfncieaaSq
import Derived.Test.YtmdcgkkkfncieaaDFnRestLattice
import Derived.Test.YtmdcgkkkfncieaaQFnRestLatticex0
import Derived.Test.YtmdcgkkkfncieaaQFnRestLatticex1
import Derived.Test.YtmdcgkkkfncieaaQFnRestLatticex2
import Derived.Test.YtmdcgkkkfncieaaQFnRestLatticex5
import Derived.Test.YtmdcgkkkfncieaaQFnRestLatticex6
import Derived.Test.YtmdcgkkkfncieaaQFnRestLatticex7
import Derived.Test.YtmdcgkkkfncieaaQFnRestLatticex8
import Derived.Test.YtmdcgkkkfncieaaQFnRestLatticex9
namespace Go.Proofs.Ytmdcgkkkfncieaa.PFnRestLattice
open Go.RowKit Go.Proofs.Ytmdcgkkkfncieaa.Sq Go.Proofs.YtmdcgkkkfncieaaW.PrintWords Go.Proofs.YtmdcgkkkfncieaaW.PrintLast Go.Proofs.YtmdcgkkkfncieaaW.PrintMore
attribute [local go_sem] max2_int min2_int max_two min_two max_three min_three max_four min_four   -- for this text's walks alone
set_option linter.unusedVariables false
set_option linter.unusedSimpArgs false

attribute [local go_sem high] eqA62
/-! ### laws_FnRestLattice: function 13 -/
theorem laws_FnRestLattice.mono_l : ∀ k, (∀ y0 y1 y2 y3 y4 y5 y6 y7 y8 y9 y10, LeO (laws_FnRestLattice.j0 k y0 y1 y2 y3 y4 y5 y6 y7 y8 y9 y10) (laws_FnRestLattice.j0 (k + 1) y0 y1 y2 y3 y4 y5 y6 y7 y8 y9 y10)) ∧ (∀ y0 y1 y2 y3 y4 y5 y6 y7 y8 y9 y10, LeO (laws_FnRestLattice.j1 k y0 y1 y2 y3 y4 y5 y6 y7 y8 y9 y10) (laws_FnRestLattice.j1 (k + 1) y0 y1 y2 y3 y4 y5 y6 y7 y8 y9 y10)) ∧ (∀ y0 y1 y2 y3 y4 y5 y6 y7 y8 y9 y10, LeO (laws_FnRestLattice.j2 k y0 y1 y2 y3 y4 y5 y6 y7 y8 y9 y10) (laws_FnRestLattice.j2 (k + 1) y0 y1 y2 y3 y4 y5 y6 y7 y8 y9 y10)) ∧ (∀ y0 y1 y2 y3 y4 y5 y6 y7 y8 y9 y10, LeO (laws_FnRestLattice.l0 k y0 y1 y2 y3 y4 y5 y6 y7 y8 y9 y10) (laws_FnRestLattice.l0 (k + 1) y0 y1 y2 y3 y4 y5 y6 y7 y8 y9 y10))
  | 0 => ⟨fun _ _ _ _ _ _ _ _ _ _ _ r h => by simp [laws_FnRestLattice.j0] at h, fun _ _ _ _ _ _ _ _ _ _ _ r h => by simp [laws_FnRestLattice.j1] at h, fun _ _ _ _ _ _ _ _ _ _ _ r h => by simp [laws_FnRestLattice.j2] at h, fun _ _ _ _ _ _ _ _ _ _ _ r h => by simp [laws_FnRestLattice.l0] at h⟩
  | k + 1 => by
    obtain ⟨ih0, ih1, ih2, ih3⟩ := laws_FnRestLattice.mono_l k
    refine ⟨?_, ?_, ?_, ?_⟩
    · intro y0 y1 y2 y3 y4 y5 y6 y7 y8 y9 y10
      unfold laws_FnRestLattice.j0
      repeat' first
      | (with_reducible exact ih0 _ _ _ _ _ _ _ _ _ _ _)
      | (with_reducible exact ih1 _ _ _ _ _ _ _ _ _ _ _)
      | (with_reducible exact ih2 _ _ _ _ _ _ _ _ _ _ _)
      | (with_reducible exact ih3 _ _ _ _ _ _ _ _ _ _ _)
      | (with_reducible exact impl_RestHas.mono _ _ _ _)
      | (with_reducible exact impl_RestIn.mono _ _ _ _ _)
      | (with_reducible exact impl_RestJoin.mono _ _ _ _ _)
      | (with_reducible exact impl_RestMeet.mono _ _ _ _ _)
      | (with_reducible exact laws_ofRest.mono _ _ _ _ _)
      | (with_reducible exact spec_DrawRestMeet.mono _ _)
      | (with_reducible exact spec_RestHas.mono _ _ _ _)
      | (with_reducible exact spec_RestJoin.mono _ _ _ _ _)
      | (with_reducible exact spec_RestMeet.mono _ _ _ _ _)
      | (with_reducible exact LeO.refl _)
      | (with_reducible exact LeO.none _)
      | (with_reducible refine LeO.ite ?_ ?_)
      | (with_reducible refine LeO.bind ?_ (fun _ => ?_))
      | exact ih0 _ _ _ _ _ _ _ _ _ _ _
      | exact ih1 _ _ _ _ _ _ _ _ _ _ _
      | exact ih2 _ _ _ _ _ _ _ _ _ _ _
      | exact ih3 _ _ _ _ _ _ _ _ _ _ _
      | exact impl_RestHas.mono _ _ _ _
      | exact impl_RestIn.mono _ _ _ _ _
      | exact impl_RestJoin.mono _ _ _ _ _
      | exact impl_RestMeet.mono _ _ _ _ _
      | exact laws_ofRest.mono _ _ _ _ _
      | exact spec_DrawRestMeet.mono _ _
      | exact spec_RestHas.mono _ _ _ _
      | exact spec_RestJoin.mono _ _ _ _ _
      | exact spec_RestMeet.mono _ _ _ _ _
      | exact LeO.none _
      | refine LeO.ite ?_ ?_
      | refine LeO.bind ?_ (fun _ => ?_)
    · intro y0 y1 y2 y3 y4 y5 y6 y7 y8 y9 y10
      unfold laws_FnRestLattice.j1
      repeat' first
      | (with_reducible exact ih0 _ _ _ _ _ _ _ _ _ _ _)
      | (with_reducible exact ih1 _ _ _ _ _ _ _ _ _ _ _)
      | (with_reducible exact ih2 _ _ _ _ _ _ _ _ _ _ _)
      | (with_reducible exact ih3 _ _ _ _ _ _ _ _ _ _ _)
      | (with_reducible exact impl_RestHas.mono _ _ _ _)
      | (with_reducible exact impl_RestIn.mono _ _ _ _ _)
      | (with_reducible exact impl_RestJoin.mono _ _ _ _ _)
      | (with_reducible exact impl_RestMeet.mono _ _ _ _ _)
      | (with_reducible exact laws_ofRest.mono _ _ _ _ _)
      | (with_reducible exact spec_DrawRestMeet.mono _ _)
      | (with_reducible exact spec_RestHas.mono _ _ _ _)
      | (with_reducible exact spec_RestJoin.mono _ _ _ _ _)
      | (with_reducible exact spec_RestMeet.mono _ _ _ _ _)
      | (with_reducible exact LeO.refl _)
      | (with_reducible exact LeO.none _)
      | (with_reducible refine LeO.ite ?_ ?_)
      | (with_reducible refine LeO.bind ?_ (fun _ => ?_))
      | exact ih0 _ _ _ _ _ _ _ _ _ _ _
      | exact ih1 _ _ _ _ _ _ _ _ _ _ _
      | exact ih2 _ _ _ _ _ _ _ _ _ _ _
      | exact ih3 _ _ _ _ _ _ _ _ _ _ _
      | exact impl_RestHas.mono _ _ _ _
      | exact impl_RestIn.mono _ _ _ _ _
      | exact impl_RestJoin.mono _ _ _ _ _
      | exact impl_RestMeet.mono _ _ _ _ _
      | exact laws_ofRest.mono _ _ _ _ _
      | exact spec_DrawRestMeet.mono _ _
      | exact spec_RestHas.mono _ _ _ _
      | exact spec_RestJoin.mono _ _ _ _ _
      | exact spec_RestMeet.mono _ _ _ _ _
      | exact LeO.none _
      | refine LeO.ite ?_ ?_
      | refine LeO.bind ?_ (fun _ => ?_)
    · intro y0 y1 y2 y3 y4 y5 y6 y7 y8 y9 y10
      unfold laws_FnRestLattice.j2
      repeat' first
      | (with_reducible exact ih0 _ _ _ _ _ _ _ _ _ _ _)
      | (with_reducible exact ih1 _ _ _ _ _ _ _ _ _ _ _)
      | (with_reducible exact ih2 _ _ _ _ _ _ _ _ _ _ _)
      | (with_reducible exact ih3 _ _ _ _ _ _ _ _ _ _ _)
      | (with_reducible exact impl_RestHas.mono _ _ _ _)
      | (with_reducible exact impl_RestIn.mono _ _ _ _ _)
      | (with_reducible exact impl_RestJoin.mono _ _ _ _ _)
      | (with_reducible exact impl_RestMeet.mono _ _ _ _ _)
      | (with_reducible exact laws_ofRest.mono _ _ _ _ _)
      | (with_reducible exact spec_DrawRestMeet.mono _ _)
      | (with_reducible exact spec_RestHas.mono _ _ _ _)
      | (with_reducible exact spec_RestJoin.mono _ _ _ _ _)
      | (with_reducible exact spec_RestMeet.mono _ _ _ _ _)
      | (with_reducible exact LeO.refl _)
      | (with_reducible exact LeO.none _)
      | (with_reducible refine LeO.ite ?_ ?_)
      | (with_reducible refine LeO.bind ?_ (fun _ => ?_))
      | exact ih0 _ _ _ _ _ _ _ _ _ _ _
      | exact ih1 _ _ _ _ _ _ _ _ _ _ _
      | exact ih2 _ _ _ _ _ _ _ _ _ _ _
      | exact ih3 _ _ _ _ _ _ _ _ _ _ _
      | exact impl_RestHas.mono _ _ _ _
      | exact impl_RestIn.mono _ _ _ _ _
      | exact impl_RestJoin.mono _ _ _ _ _
      | exact impl_RestMeet.mono _ _ _ _ _
      | exact laws_ofRest.mono _ _ _ _ _
      | exact spec_DrawRestMeet.mono _ _
      | exact spec_RestHas.mono _ _ _ _
      | exact spec_RestJoin.mono _ _ _ _ _
      | exact spec_RestMeet.mono _ _ _ _ _
      | exact LeO.none _
      | refine LeO.ite ?_ ?_
      | refine LeO.bind ?_ (fun _ => ?_)
    · intro y0 y1 y2 y3 y4 y5 y6 y7 y8 y9 y10
      unfold laws_FnRestLattice.l0
      repeat' first
      | (with_reducible exact ih0 _ _ _ _ _ _ _ _ _ _ _)
      | (with_reducible exact ih1 _ _ _ _ _ _ _ _ _ _ _)
      | (with_reducible exact ih2 _ _ _ _ _ _ _ _ _ _ _)
      | (with_reducible exact ih3 _ _ _ _ _ _ _ _ _ _ _)
      | (with_reducible exact impl_RestHas.mono _ _ _ _)
      | (with_reducible exact impl_RestIn.mono _ _ _ _ _)
      | (with_reducible exact impl_RestJoin.mono _ _ _ _ _)
      | (with_reducible exact impl_RestMeet.mono _ _ _ _ _)
      | (with_reducible exact laws_ofRest.mono _ _ _ _ _)
      | (with_reducible exact spec_DrawRestMeet.mono _ _)
      | (with_reducible exact spec_RestHas.mono _ _ _ _)
      | (with_reducible exact spec_RestJoin.mono _ _ _ _ _)
      | (with_reducible exact spec_RestMeet.mono _ _ _ _ _)
      | (with_reducible exact LeO.refl _)
      | (with_reducible exact LeO.none _)
      | (with_reducible refine LeO.ite ?_ ?_)
      | (with_reducible refine LeO.bind ?_ (fun _ => ?_))
      | exact ih0 _ _ _ _ _ _ _ _ _ _ _
      | exact ih1 _ _ _ _ _ _ _ _ _ _ _
      | exact ih2 _ _ _ _ _ _ _ _ _ _ _
      | exact ih3 _ _ _ _ _ _ _ _ _ _ _
      | exact impl_RestHas.mono _ _ _ _
      | exact impl_RestIn.mono _ _ _ _ _
      | exact impl_RestJoin.mono _ _ _ _ _
      | exact impl_RestMeet.mono _ _ _ _ _
      | exact laws_ofRest.mono _ _ _ _ _
      | exact spec_DrawRestMeet.mono _ _
      | exact spec_RestHas.mono _ _ _ _
      | exact spec_RestJoin.mono _ _ _ _ _
      | exact spec_RestMeet.mono _ _ _ _ _
      | exact LeO.none _
      | refine LeO.ite ?_ ?_
      | refine LeO.bind ?_ (fun _ => ?_)
theorem laws_FnRestLattice.mono : ∀ a0 k, LeO (laws_FnRestLattice.f k a0) (laws_FnRestLattice.f (k + 1) a0) := by
  intro a0 k
  obtain ⟨ih0, ih1, ih2, ih3⟩ := laws_FnRestLattice.mono_l k
  unfold laws_FnRestLattice.f
  repeat' first
      | (with_reducible exact ih0 _ _ _ _ _ _ _ _ _ _ _)
      | (with_reducible exact ih1 _ _ _ _ _ _ _ _ _ _ _)
      | (with_reducible exact ih2 _ _ _ _ _ _ _ _ _ _ _)
      | (with_reducible exact ih3 _ _ _ _ _ _ _ _ _ _ _)
      | (with_reducible exact impl_RestHas.mono _ _ _ _)
      | (with_reducible exact impl_RestIn.mono _ _ _ _ _)
      | (with_reducible exact impl_RestJoin.mono _ _ _ _ _)
      | (with_reducible exact impl_RestMeet.mono _ _ _ _ _)
      | (with_reducible exact laws_ofRest.mono _ _ _ _ _)
      | (with_reducible exact spec_DrawRestMeet.mono _ _)
      | (with_reducible exact spec_RestHas.mono _ _ _ _)
      | (with_reducible exact spec_RestJoin.mono _ _ _ _ _)
      | (with_reducible exact spec_RestMeet.mono _ _ _ _ _)
      | (with_reducible exact LeO.refl _)
      | (with_reducible exact LeO.none _)
      | (with_reducible refine LeO.ite ?_ ?_)
      | (with_reducible refine LeO.bind ?_ (fun _ => ?_))
      | exact ih0 _ _ _ _ _ _ _ _ _ _ _
      | exact ih1 _ _ _ _ _ _ _ _ _ _ _
      | exact ih2 _ _ _ _ _ _ _ _ _ _ _
      | exact ih3 _ _ _ _ _ _ _ _ _ _ _
      | exact impl_RestHas.mono _ _ _ _
      | exact impl_RestIn.mono _ _ _ _ _
      | exact impl_RestJoin.mono _ _ _ _ _
      | exact impl_RestMeet.mono _ _ _ _ _
      | exact laws_ofRest.mono _ _ _ _ _
      | exact spec_DrawRestMeet.mono _ _
      | exact spec_RestHas.mono _ _ _ _
      | exact spec_RestJoin.mono _ _ _ _ _
      | exact spec_RestMeet.mono _ _ _ _ _
      | exact LeO.none _
      | refine LeO.ite ?_ ?_
      | refine LeO.bind ?_ (fun _ => ?_)
def laws_FnRestLattice.T7 : Bool × List (List Nat × List Nat) := (true, [([], []), ([], []), ([], []), ([1, 2], [1, 2]), ([0, 3], [0, 3]), ([4, 3], [4]), ([5], [5]), ([5], [5]), ([6, 7, 5], [5, 6, 7]), ([5, 8], [5, 8]), ([9, 5], [9]), ([10], [10]), ([10], [10]), ([11, 12, 10], [10, 11, 12]), ([10, 13], [10, 13])])
def laws_FnRestLattice.B7 : List Nat := [0, 0, 0, 6, 15, 31, 63, 63, 255, 511, 1023, 2047, 2047, 8191, 16383]
theorem laws_FnRestLattice.tab7 : rtab .any (opsOf Try.f13 7) = laws_FnRestLattice.T7 := by kernel_rfl
theorem laws_FnRestLattice.bits7 : waitsOk laws_FnRestLattice.T7.2 laws_FnRestLattice.B7 = true := by kernel_rfl
set_option maxHeartbeats 8000000 in
set_option maxRecDepth 100000 in
theorem laws_FnRestLattice.calls (k : Nat) (A0 : Option Addr) (c0 : Nat) (l0 : List Int) (r : Bool) (w : World) (hr0 : Kd.C (Kd.int .u8) w A0 l0.length l0) (hc0 : l0.length ≤ c0) (h : laws_FnRestLattice.f k l0 = some r) :
    Calls Try.prog 13 #[.slice A0 l0.length c0] w fun e w' => e = .returned (.bool r) ∧ Below w.heap.size w w' := by
  have hu62 := Try.underlying62
  have HR0 := Aside0.mk hr0
  have HC0 := Aside0.mk hc0
  clear hr0 hc0
  have HB := Aside0.mk (Below.refl w.heap.size w)
  have H : (if (l0.length : Int) > 1048576 then (some true) else ((spec_DrawRestMeet.f k l0).bind fun bt309 => ((impl_RestJoin.f k bt309.1 bt309.2.1 bt309.2.2.1 bt309.2.2.2).bind fun bt315 => ((impl_RestMeet.f k bt309.1 bt309.2.1 bt309.2.2.1 bt309.2.2.2).bind fun bt318 => ((spec_RestMeet.f k bt309.1 bt309.2.1 bt309.2.2.1 bt309.2.2.2).bind fun bt322 => ((spec_RestJoin.f k bt309.1 bt309.2.1 bt309.2.2.1 bt309.2.2.2).bind fun bt326 => (if (!(bt315.1 == bt326.1) || (!(bt315.2 == bt326.2))) = true then (laws_FnRestLattice.j0 k l0 bt318.2.2 true bt309.1 bt309.2.1 bt309.2.2.1 bt309.2.2.2 bt315.1 bt315.2 bt318.1 bt318.2.1) else (if (!(bt318.1 == bt322.1) || (!(bt318.2.1 == bt322.2.1))) = true then (laws_FnRestLattice.j0 k l0 bt318.2.2 true bt309.1 bt309.2.1 bt309.2.2.1 bt309.2.2.2 bt315.1 bt315.2 bt318.1 bt318.2.1) else (laws_FnRestLattice.j0 k l0 bt318.2.2 (bt318.2.2 != bt322.2.2) bt309.1 bt309.2.1 bt309.2.2.1 bt309.2.2.2 bt315.1 bt315.2 bt318.1 bt318.2.1))))))))) = some r := h
  clear h
  by_cases c2 : (l0.length : Int) > 1048576
  · rw [if_pos c2] at H
    have c2b0 : decide (1048576 < (l0.length : Int)) = true := decide_eq_true c2
    have c2b1 : decide (1048576 < l0.length) = true := decide_eq_true (by omega)
    clear c2
    obtain rfl := Option.some.inj H
    go_enter Try.func13, Try.ntmps13
    go_wp2
    go_ret
    exact sqe HB
  · rw [if_neg c2] at H
    have c2b0 : decide (1048576 < (l0.length : Int)) = false := decide_eq_false c2
    have c2b1 : decide (1048576 < l0.length) = false := decide_eq_false (by omega)
    clear c2
    replace H := Option.bind_eq_some_iff.mp H
    obtain ⟨⟨t309, t310, t311, t312⟩, A30, H⟩ := H
    replace H : ((impl_RestJoin.f k t309 t310 t311 t312).bind fun bt315 => ((impl_RestMeet.f k t309 t310 t311 t312).bind fun bt318 => ((spec_RestMeet.f k t309 t310 t311 t312).bind fun bt322 => ((spec_RestJoin.f k t309 t310 t311 t312).bind fun bt326 => (if (!(bt315.1 == bt326.1) || (!(bt315.2 == bt326.2))) = true then (laws_FnRestLattice.j0 k l0 bt318.2.2 true t309 t310 t311 t312 bt315.1 bt315.2 bt318.1 bt318.2.1) else (if (!(bt318.1 == bt322.1) || (!(bt318.2.1 == bt322.2.1))) = true then (laws_FnRestLattice.j0 k l0 bt318.2.2 true t309 t310 t311 t312 bt315.1 bt315.2 bt318.1 bt318.2.1) else (laws_FnRestLattice.j0 k l0 bt318.2.2 (bt318.2.2 != bt322.2.2) t309 t310 t311 t312 bt315.1 bt315.2 bt318.1 bt318.2.1))))))) = some r := H
    have A3 := Aside0.mk A30
    clear A30
    replace H := Option.bind_eq_some_iff.mp H
    obtain ⟨⟨t315, t316⟩, A40, H⟩ := H
    replace H : ((impl_RestMeet.f k t309 t310 t311 t312).bind fun bt318 => ((spec_RestMeet.f k t309 t310 t311 t312).bind fun bt322 => ((spec_RestJoin.f k t309 t310 t311 t312).bind fun bt326 => (if (!(t315 == bt326.1) || (!(t316 == bt326.2))) = true then (laws_FnRestLattice.j0 k l0 bt318.2.2 true t309 t310 t311 t312 t315 t316 bt318.1 bt318.2.1) else (if (!(bt318.1 == bt322.1) || (!(bt318.2.1 == bt322.2.1))) = true then (laws_FnRestLattice.j0 k l0 bt318.2.2 true t309 t310 t311 t312 t315 t316 bt318.1 bt318.2.1) else (laws_FnRestLattice.j0 k l0 bt318.2.2 (bt318.2.2 != bt322.2.2) t309 t310 t311 t312 t315 t316 bt318.1 bt318.2.1)))))) = some r := H
    have A4 := Aside0.mk A40
    clear A40
    replace H := Option.bind_eq_some_iff.mp H
    obtain ⟨⟨t318, t319, t320⟩, A50, H⟩ := H
    replace H : ((spec_RestMeet.f k t309 t310 t311 t312).bind fun bt322 => ((spec_RestJoin.f k t309 t310 t311 t312).bind fun bt326 => (if (!(t315 == bt326.1) || (!(t316 == bt326.2))) = true then (laws_FnRestLattice.j0 k l0 t320 true t309 t310 t311 t312 t315 t316 t318 t319) else (if (!(t318 == bt322.1) || (!(t319 == bt322.2.1))) = true then (laws_FnRestLattice.j0 k l0 t320 true t309 t310 t311 t312 t315 t316 t318 t319) else (laws_FnRestLattice.j0 k l0 t320 (t320 != bt322.2.2) t309 t310 t311 t312 t315 t316 t318 t319))))) = some r := H
    have A5 := Aside0.mk A50
    clear A50
    replace H := Option.bind_eq_some_iff.mp H
    obtain ⟨⟨t322, t323, t324⟩, A60, H⟩ := H
    replace H : ((spec_RestJoin.f k t309 t310 t311 t312).bind fun bt326 => (if (!(t315 == bt326.1) || (!(t316 == bt326.2))) = true then (laws_FnRestLattice.j0 k l0 t320 true t309 t310 t311 t312 t315 t316 t318 t319) else (if (!(t318 == t322) || (!(t319 == t323))) = true then (laws_FnRestLattice.j0 k l0 t320 true t309 t310 t311 t312 t315 t316 t318 t319) else (laws_FnRestLattice.j0 k l0 t320 (t320 != t324) t309 t310 t311 t312 t315 t316 t318 t319)))) = some r := H
    have A6 := Aside0.mk A60
    clear A60
    have HC7 := Aside0.mk H
    clear H
    go_enter Try.func13, Try.ntmps13
    go_upto_region 7 with (first | ((with_reducible refine gate_callee (f := 54) rfl ?_); refine sqL (some 17) Try.func54 #[.slice A0 l0.length c0] ?_; (with_reducible refine (spec_DrawRestMeet.calls k _ _ l0 t309 t310 t311 t312 _ ?side1 ?side2 A3.out).mono ?_); (case side1 => repeat (first | exact HR0.out | (with_reducible refine Kd.C_alloc ?_ _) | (with_reducible refine Kd.C_drewN ?_ _) | (with_reducible refine Kd.C_drew ?_))); (case side2 => exact HC0.out); rintro e w8 ⟨rfl, hb⟩; refine ⟨_, rfl, ?_⟩; replace HB := sqs HB hb; (try clear hb)) | ((with_reducible refine gate_dst (N := 3) rfl ?_); refine sqx 3 #[.int .i64 0, .int .i64 0] 62 ?_; intro gb313 hg w9 hbox hb; have BK313 := Aside0.mk (hbox); have GW313 := sqg HB hg; have GE313 := sqg HB hg; replace HB := sqs HB hb; clear hb hbox hg) | ((with_reducible refine gate_dst (N := 4) rfl ?_); refine sqx 4 #[.int .i64 0, .int .i64 0] 62 ?_; intro gb314 hg w10 hbox hb; have BK314 := Aside0.mk (hbox); have GW314 := sqg HB hg; have GE314 := sqg HB hg; have NB313_314 := sqn BK313 hg; have NB314_313 := sqm BK313 hg; replace BK313 := sqb BK313 hb; replace HB := sqs HB hb; clear hb hbox hg; have hnb11 := NB313_314.out; have hnc11 := NB314_313.out; obtain ⟨hcz12_0, hcz12_1, hfz12_0, hfz12_1⟩ := sqc2 BK313; obtain ⟨hcz13_0, hcz13_1, hfz13_0, hfz13_1⟩ := sqc2 BK314) | ((with_reducible refine gate_callee (f := 55) rfl ?_); refine sqL (some 22) Try.func55 #[.agg #[.int .i64 t309, .int .i64 t310], .agg #[.int .i64 t311, .int .i64 t312]] ?_; (with_reducible refine (impl_RestJoin.calls k t309 t310 t311 t312 t315 t316 _ A4.out).mono ?_); rintro e w14 ⟨rfl, hb⟩; refine ⟨_, rfl, ?_⟩; have n0_ := Aside0.mk (blk_below (g := gb313) (o := .cells #[.int .i64 t309, .int .i64 t310] 62 (0, 0)) (by refine sqt ?_; refine blk_far ?_ NB313_314.out _; refine sqt ?_; refine blk_far ?_ NB313_314.out _; refine sqt ?_; refine blk_put (cs := #[.int .i64 t309, .int .i64 0]) ?_ 1 _ rfl; refine sqt ?_; refine blk_put (cs := #[.int .i64 0, .int .i64 0]) ?_ 0 _ rfl; refine sqt ?_; exact BK313.out) hb); have n1_ := Aside0.mk (blk_below (g := gb314) (o := .cells #[.int .i64 t311, .int .i64 t312] 62 (0, 0)) (by refine sqt ?_; refine blk_put (cs := #[.int .i64 t311, .int .i64 0]) ?_ 1 _ rfl; refine sqt ?_; refine blk_put (cs := #[.int .i64 0, .int .i64 0]) ?_ 0 _ rfl; refine sqt ?_; refine blk_far ?_ NB314_313.out _; refine sqt ?_; refine blk_far ?_ NB314_313.out _; refine sqt ?_; exact BK314.out) hb); have n2_ := sqs HB hb; clear BK313; clear BK314; clear HB; have BK313 := n0_; have BK314 := n1_; have HB := n2_; clear n0_ n1_ n2_; (try clear hb)) | ((with_reducible refine gate_dst (N := 5) rfl ?_); refine sqx 5 #[.int .i64 0, .int .i64 0] 62 ?_; intro gb317 hg w15 hbox hb; have BK317 := Aside0.mk (hbox); have GW317 := sqg HB hg; have GE317 := sqg HB hg; have NB313_317 := sqn BK313 hg; have NB317_313 := sqm BK313 hg; have NB314_317 := sqn BK314 hg; have NB317_314 := sqm BK314 hg; replace BK313 := sqb BK313 hb; replace BK314 := sqb BK314 hb; replace HB := sqs HB hb; clear hb hbox hg; have hnb16 := NB317_313.out; have hnc16 := NB313_317.out; have hnb17 := NB317_314.out; have hnc17 := NB314_317.out; obtain ⟨hcz18_0, hcz18_1, hfz18_0, hfz18_1⟩ := sqc2 BK317; obtain ⟨hcz19_0, hcz19_1, hfz19_0, hfz19_1⟩ := sqc2 BK313; obtain ⟨hcz20_0, hcz20_1, hfz20_0, hfz20_1⟩ := sqc2 BK314) | ((with_reducible refine gate_callee (f := 56) rfl ?_); refine sqL (some 26) Try.func56 #[.agg #[.int .i64 t309, .int .i64 t310], .agg #[.int .i64 t311, .int .i64 t312]] ?_; (with_reducible refine (impl_RestMeet.calls k t309 t310 t311 t312 t318 t319 t320 _ A5.out).mono ?_); rintro e w21 ⟨rfl, hb⟩; refine ⟨_, rfl, ?_⟩; have n0_ := Aside0.mk (blk_below (g := gb313) (o := .cells #[.int .i64 t309, .int .i64 t310] 62 (0, 0)) (by refine sqt ?_; refine blk_far ?_ NB313_317.out _; refine sqt ?_; refine blk_far ?_ NB313_317.out _; refine sqt ?_; exact BK313.out) hb); have n1_ := Aside0.mk (blk_below (g := gb314) (o := .cells #[.int .i64 t311, .int .i64 t312] 62 (0, 0)) (by refine sqt ?_; refine blk_far ?_ NB314_317.out _; refine sqt ?_; refine blk_far ?_ NB314_317.out _; refine sqt ?_; exact BK314.out) hb); have n2_ := Aside0.mk (blk_below (g := gb317) (o := .cells #[.int .i64 t315, .int .i64 t316] 62 (0, 0)) (by refine sqt ?_; refine blk_put (cs := #[.int .i64 t315, .int .i64 0]) ?_ 1 _ rfl; refine sqt ?_; refine blk_put (cs := #[.int .i64 0, .int .i64 0]) ?_ 0 _ rfl; refine sqt ?_; exact BK317.out) hb); have n3_ := sqs HB hb; clear BK313; clear BK314; clear BK317; clear HB; have BK313 := n0_; have BK314 := n1_; have BK317 := n2_; have HB := n3_; clear n0_ n1_ n2_ n3_; (try clear hb)) | ((with_reducible refine gate_dst (N := 6) rfl ?_); refine sqx 6 #[.int .i64 0, .int .i64 0] 62 ?_; intro gb321 hg w22 hbox hb; have BK321 := Aside0.mk (hbox); have GW321 := sqg HB hg; have GE321 := sqg HB hg; have NB313_321 := sqn BK313 hg; have NB321_313 := sqm BK313 hg; have NB314_321 := sqn BK314 hg; have NB321_314 := sqm BK314 hg; have NB317_321 := sqn BK317 hg; have NB321_317 := sqm BK317 hg; replace BK313 := sqb BK313 hb; replace BK314 := sqb BK314 hb; replace BK317 := sqb BK317 hb; replace HB := sqs HB hb; clear hb hbox hg; have hnb23 := NB321_313.out; have hnc23 := NB313_321.out; have hnb24 := NB321_314.out; have hnc24 := NB314_321.out; have hnb25 := NB321_317.out; have hnc25 := NB317_321.out; obtain ⟨hcz26_0, hcz26_1, hfz26_0, hfz26_1⟩ := sqc2 BK321; obtain ⟨hcz27_0, hcz27_1, hfz27_0, hfz27_1⟩ := sqc2 BK313; obtain ⟨hcz28_0, hcz28_1, hfz28_0, hfz28_1⟩ := sqc2 BK314) | ((with_reducible refine gate_callee (f := 57) rfl ?_); refine sqL (some 32) Try.func57 #[.agg #[.int .i64 t309, .int .i64 t310], .agg #[.int .i64 t311, .int .i64 t312]] ?_; (with_reducible refine (spec_RestMeet.calls k t309 t310 t311 t312 t322 t323 t324 _ A6.out).mono ?_); rintro e w29 ⟨rfl, hb⟩; refine ⟨_, rfl, ?_⟩; have n0_ := Aside0.mk (blk_below (g := gb313) (o := .cells #[.int .i64 t309, .int .i64 t310] 62 (0, 0)) (by refine sqt ?_; refine blk_far ?_ NB313_321.out _; refine sqt ?_; refine blk_far ?_ NB313_321.out _; refine sqt ?_; exact BK313.out) hb); have n1_ := Aside0.mk (blk_below (g := gb314) (o := .cells #[.int .i64 t311, .int .i64 t312] 62 (0, 0)) (by refine sqt ?_; refine blk_far ?_ NB314_321.out _; refine sqt ?_; refine blk_far ?_ NB314_321.out _; refine sqt ?_; exact BK314.out) hb); have n2_ := Aside0.mk (blk_below (g := gb317) (o := .cells #[.int .i64 t315, .int .i64 t316] 62 (0, 0)) (by refine sqt ?_; refine blk_far ?_ NB317_321.out _; refine sqt ?_; refine blk_far ?_ NB317_321.out _; refine sqt ?_; exact BK317.out) hb); have n3_ := Aside0.mk (blk_below (g := gb321) (o := .cells #[.int .i64 t318, .int .i64 t319] 62 (0, 0)) (by refine sqt ?_; refine blk_put (cs := #[.int .i64 t318, .int .i64 0]) ?_ 1 _ rfl; refine sqt ?_; refine blk_put (cs := #[.int .i64 0, .int .i64 0]) ?_ 0 _ rfl; refine sqt ?_; exact BK321.out) hb); have n4_ := sqs HB hb; clear BK313; clear BK314; clear BK317; clear BK321; clear HB; have BK313 := n0_; have BK314 := n1_; have BK317 := n2_; have BK321 := n3_; have HB := n4_; clear n0_ n1_ n2_ n3_ n4_; (try clear hb)) | ((with_reducible refine gate_dst (N := 8) rfl ?_); refine sqx 8 #[.int .i64 0, .int .i64 0] 62 ?_; intro gb325 hg w30 hbox hb; have BK325 := Aside0.mk (hbox); have GW325 := sqg HB hg; have GE325 := sqg HB hg; have NB313_325 := sqn BK313 hg; have NB325_313 := sqm BK313 hg; have NB314_325 := sqn BK314 hg; have NB325_314 := sqm BK314 hg; have NB317_325 := sqn BK317 hg; have NB325_317 := sqm BK317 hg; have NB321_325 := sqn BK321 hg; have NB325_321 := sqm BK321 hg; replace BK313 := sqb BK313 hb; replace BK314 := sqb BK314 hb; replace BK317 := sqb BK317 hb; replace BK321 := sqb BK321 hb; replace HB := sqs HB hb; clear hb hbox hg; have hnb31 := NB325_313.out; have hnc31 := NB313_325.out; have hnb32 := NB325_314.out; have hnc32 := NB314_325.out; have hnb33 := NB325_317.out; have hnc33 := NB317_325.out; have hnb34 := NB325_321.out; have hnc34 := NB321_325.out; obtain ⟨hcz35_0, hcz35_1, hfz35_0, hfz35_1⟩ := sqc2 BK325))
    (try simp only [Act.put, List.setIfInBounds_toArray, List.set_cons_zero, List.set_cons_succ])
    go_cut [49] (fun v49 wc => ∃ (kq : Nat) (x49_6 : Bool), v49 = .bool x49_6 ∧ Aside0 (laws_FnRestLattice.j0 kq l0 t320 x49_6 t309 t310 t311 t312 t315 t316 t318 t319 = some r) ∧ Aside0 (kq ≤ k) ∧ Aside0 (wc.heap[gb313]? = some (.cells #[.int .i64 t309, .int .i64 t310] 62 (0, 0))) ∧ Aside0 (wc.heap[gb314]? = some (.cells #[.int .i64 t311, .int .i64 t312] 62 (0, 0))) ∧ Aside0 (wc.heap[gb317]? = some (.cells #[.int .i64 t315, .int .i64 t316] 62 (0, 0))) ∧ Aside0 (wc.heap[gb321]? = some (.cells #[.int .i64 t318, .int .i64 t319] 62 (0, 0))) ∧ Aside0 (wc.heap[gb325]? = some (.cells #[.int .i64 t322, .int .i64 t323] 62 (0, 0))) ∧ Aside0 (Below w.heap.size w wc))
    case first =>
      as_aux_lemma =>
      have H := HC7.out
      clear HC7
      replace H := Option.bind_eq_some_iff.mp H
      obtain ⟨⟨t326, t327⟩, A360, H⟩ := H
      replace H : (if (!(t315 == t326) || (!(t316 == t327))) = true then (laws_FnRestLattice.j0 k l0 t320 true t309 t310 t311 t312 t315 t316 t318 t319) else (if (!(t318 == t322) || (!(t319 == t323))) = true then (laws_FnRestLattice.j0 k l0 t320 true t309 t310 t311 t312 t315 t316 t318 t319) else (laws_FnRestLattice.j0 k l0 t320 (t320 != t324) t309 t310 t311 t312 t315 t316 t318 t319))) = some r := H
      have A36 := Aside0.mk A360
      clear A360
      by_cases c37 : (!(t315 == t326) || (!(t316 == t327))) = true
      · rw [if_pos c37] at H
        have c37b0 : (!(t315 == t326) || (!(t316 == t327))) = true := c37
        clear c37
        (first | rw [c37b0] | (simp only [i64_w, i32_w]; rw [c37b0]) | skip)
        have H' := Aside0.mk H
        clear H
        try go_wp2
        have n0_ : Aside0 (((w30.setCell ⟨gb325, 0, none⟩ (.int .i64 t322)).setCell ⟨gb325, 1, none⟩ (.int .i64 t323)).heap[gb313]? = some (.cells #[.int .i64 t309, .int .i64 t310] 62 (0, 0))) := ⟨by refine sqt ?_; refine blk_far ?_ NB313_325.out _; refine sqt ?_; refine blk_far ?_ NB313_325.out _; refine sqt ?_; exact BK313.out⟩
        have n1_ : Aside0 (((w30.setCell ⟨gb325, 0, none⟩ (.int .i64 t322)).setCell ⟨gb325, 1, none⟩ (.int .i64 t323)).heap[gb314]? = some (.cells #[.int .i64 t311, .int .i64 t312] 62 (0, 0))) := ⟨by refine sqt ?_; refine blk_far ?_ NB314_325.out _; refine sqt ?_; refine blk_far ?_ NB314_325.out _; refine sqt ?_; exact BK314.out⟩
        have n2_ : Aside0 (((w30.setCell ⟨gb325, 0, none⟩ (.int .i64 t322)).setCell ⟨gb325, 1, none⟩ (.int .i64 t323)).heap[gb317]? = some (.cells #[.int .i64 t315, .int .i64 t316] 62 (0, 0))) := ⟨by refine sqt ?_; refine blk_far ?_ NB317_325.out _; refine sqt ?_; refine blk_far ?_ NB317_325.out _; refine sqt ?_; exact BK317.out⟩
        have n3_ : Aside0 (((w30.setCell ⟨gb325, 0, none⟩ (.int .i64 t322)).setCell ⟨gb325, 1, none⟩ (.int .i64 t323)).heap[gb321]? = some (.cells #[.int .i64 t318, .int .i64 t319] 62 (0, 0))) := ⟨by refine sqt ?_; refine blk_far ?_ NB321_325.out _; refine sqt ?_; refine blk_far ?_ NB321_325.out _; refine sqt ?_; exact BK321.out⟩
        have n4_ : Aside0 (((w30.setCell ⟨gb325, 0, none⟩ (.int .i64 t322)).setCell ⟨gb325, 1, none⟩ (.int .i64 t323)).heap[gb325]? = some (.cells #[.int .i64 t322, .int .i64 t323] 62 (0, 0))) := ⟨by refine sqt ?_; refine blk_put (cs := #[.int .i64 t322, .int .i64 0]) ?_ 1 _ rfl; refine sqt ?_; refine blk_put (cs := #[.int .i64 0, .int .i64 0]) ?_ 0 _ rfl; refine sqt ?_; exact BK325.out⟩
        have n5_ : Aside0 (Below w.heap.size w ((w30.setCell ⟨gb325, 0, none⟩ (.int .i64 t322)).setCell ⟨gb325, 1, none⟩ (.int .i64 t323))) := sqh HB
        (try clear BK313)
        (try clear BK314)
        (try clear BK317)
        (try clear BK321)
        (try clear BK325)
        (try clear HB)
        generalize ((w30.setCell ⟨gb325, 0, none⟩ (.int .i64 t322)).setCell ⟨gb325, 1, none⟩ (.int .i64 t323)) = w38 at n0_ n1_ n2_ n3_ n4_ n5_ ⊢
        have BK313 := n0_
        have BK314 := n1_
        have BK317 := n2_
        have BK321 := n3_
        have BK325 := n4_
        have HB := n5_
        clear n0_ n1_ n2_ n3_ n4_ n5_
        replace BK313 := Aside0.mk (blk_drew BK313.out)
        replace BK314 := Aside0.mk (blk_drew BK314.out)
        replace BK317 := Aside0.mk (blk_drew BK317.out)
        replace BK321 := Aside0.mk (blk_drew BK321.out)
        replace BK325 := Aside0.mk (blk_drew BK325.out)
        replace HB := Aside0.mk (below_drew1 HB.out)
        refine start_ (n := 15) (S := fun w' => w'.cell? ⟨gb317, 0, none⟩ = some (.int .i64 t315) ∧ w'.cell? ⟨gb317, 1, none⟩ = some (.int .i64 t316) ∧ w'.cell? ⟨gb313, 0, none⟩ = some (.int .i64 t309) ∧ w'.cell? ⟨gb313, 1, none⟩ = some (.int .i64 t310) ∧ w'.cell? ⟨gb314, 0, none⟩ = some (.int .i64 t311) ∧ w'.cell? ⟨gb314, 1, none⟩ = some (.int .i64 t312)) (ds := []) #[false, false, false, false, false, false, false, false, false, false, false, false, false, false, false] (by kernel_rfl) rfl rfl ⟨(blk_cell BK317.out 0).trans rfl, (blk_cell BK317.out 1).trans rfl, (blk_cell BK313.out 0).trans rfl, (blk_cell BK313.out 1).trans rfl, (blk_cell BK314.out 0).trans rfl, (blk_cell BK314.out 1).trans rfl⟩ (fun hHeld => ?_); refine with_tabW laws_FnRestLattice.tab7 laws_FnRestLattice.bits7 (fun HT_ HW_ => ?_)
        generalize w38.drew = w39 at BK313 BK314 BK317 BK321 BK325 HB hHeld ⊢
        refine sqw HT_ HW_ 0 35 hHeld ?_
        refine sqw HT_ HW_ 1 36 hHeld ?_
        refine sqw HT_ HW_ 2 37 hHeld ?_
        refine sqo HT_ 3 38 (fun K hK => ?_)
        refine sqG Try.func58 #[.agg #[.int .i64 t309, .int .i64 t310], .agg #[.int .i64 t311, .int .i64 t312]] ?_
        with_reducible refine (spec_RestJoin.calls k t309 t310 t311 t312 t326 t327 _ A36.out).mono ?_
        rintro e w40 ⟨rfl, hb⟩
        refine ⟨_, rfl, ?_⟩
        replace BK313 := sqb BK313 hb
        replace BK314 := sqb BK314 hb
        replace BK317 := sqb BK317 hb
        replace BK321 := sqb BK321 hb
        replace BK325 := sqb BK325 hb
        replace HB := sqs HB hb
        (try clear hb)
        refine hK.out _ _ sqz (fun hHeld => ?_)
        clear hK K
        refine sqnm ?_
        refine sqp HT_ 4 39 ?_
        refine sqp HT_ 5 40 ?_
        refine sqpu HT_ 6 41 ?_
        refine sqpu HT_ 7 42 ?_
        refine sqpu HT_ 8 43 ?_
        refine sqp HT_ 9 44 ?_
        refine sqp HT_ 10 45 ?_
        refine sqpu HT_ 11 46 ?_
        refine sqpu HT_ 12 47 ?_
        refine sqpu HT_ 13 48 ?_
        refine sqp HT_ 14 49 ?_
        refine done_ (done_of HT_.out (by kernel_rfl)) ?_
        try go_wp2
        go_meet
        case rel => exact ⟨_, (true), (by first | rfl | (simp; done) | (simp [*]; done)), H', ⟨by first | omega | exact Nat.le_refl _⟩, sqk BK313, sqk BK314, sqk BK317, sqk BK321, sqk BK325, sqh HB⟩
      · rw [if_neg c37] at H
        have c37b0 : (!(t315 == t326) || (!(t316 == t327))) = false := by simpa using c37
        clear c37
        (first | rw [c37b0] | (simp only [i64_w, i32_w]; rw [c37b0]) | skip)
        by_cases c41 : (!(t318 == t322) || (!(t319 == t323))) = true
        · rw [if_pos c41] at H
          have c41b0 : (!(t318 == t322) || (!(t319 == t323))) = true := c41
          clear c41
          have H' := Aside0.mk H
          clear H
          try go_wp2
          have n0_ : Aside0 (((w30.setCell ⟨gb325, 0, none⟩ (.int .i64 t322)).setCell ⟨gb325, 1, none⟩ (.int .i64 t323)).heap[gb313]? = some (.cells #[.int .i64 t309, .int .i64 t310] 62 (0, 0))) := ⟨by refine sqt ?_; refine blk_far ?_ NB313_325.out _; refine sqt ?_; refine blk_far ?_ NB313_325.out _; refine sqt ?_; exact BK313.out⟩
          have n1_ : Aside0 (((w30.setCell ⟨gb325, 0, none⟩ (.int .i64 t322)).setCell ⟨gb325, 1, none⟩ (.int .i64 t323)).heap[gb314]? = some (.cells #[.int .i64 t311, .int .i64 t312] 62 (0, 0))) := ⟨by refine sqt ?_; refine blk_far ?_ NB314_325.out _; refine sqt ?_; refine blk_far ?_ NB314_325.out _; refine sqt ?_; exact BK314.out⟩
          have n2_ : Aside0 (((w30.setCell ⟨gb325, 0, none⟩ (.int .i64 t322)).setCell ⟨gb325, 1, none⟩ (.int .i64 t323)).heap[gb317]? = some (.cells #[.int .i64 t315, .int .i64 t316] 62 (0, 0))) := ⟨by refine sqt ?_; refine blk_far ?_ NB317_325.out _; refine sqt ?_; refine blk_far ?_ NB317_325.out _; refine sqt ?_; exact BK317.out⟩
          have n3_ : Aside0 (((w30.setCell ⟨gb325, 0, none⟩ (.int .i64 t322)).setCell ⟨gb325, 1, none⟩ (.int .i64 t323)).heap[gb321]? = some (.cells #[.int .i64 t318, .int .i64 t319] 62 (0, 0))) := ⟨by refine sqt ?_; refine blk_far ?_ NB321_325.out _; refine sqt ?_; refine blk_far ?_ NB321_325.out _; refine sqt ?_; exact BK321.out⟩
          have n4_ : Aside0 (((w30.setCell ⟨gb325, 0, none⟩ (.int .i64 t322)).setCell ⟨gb325, 1, none⟩ (.int .i64 t323)).heap[gb325]? = some (.cells #[.int .i64 t322, .int .i64 t323] 62 (0, 0))) := ⟨by refine sqt ?_; refine blk_put (cs := #[.int .i64 t322, .int .i64 0]) ?_ 1 _ rfl; refine sqt ?_; refine blk_put (cs := #[.int .i64 0, .int .i64 0]) ?_ 0 _ rfl; refine sqt ?_; exact BK325.out⟩
          have n5_ : Aside0 (Below w.heap.size w ((w30.setCell ⟨gb325, 0, none⟩ (.int .i64 t322)).setCell ⟨gb325, 1, none⟩ (.int .i64 t323))) := sqh HB
          (try clear BK313)
          (try clear BK314)
          (try clear BK317)
          (try clear BK321)
          (try clear BK325)
          (try clear HB)
          generalize ((w30.setCell ⟨gb325, 0, none⟩ (.int .i64 t322)).setCell ⟨gb325, 1, none⟩ (.int .i64 t323)) = w42 at n0_ n1_ n2_ n3_ n4_ n5_ ⊢
          have BK313 := n0_
          have BK314 := n1_
          have BK317 := n2_
          have BK321 := n3_
          have BK325 := n4_
          have HB := n5_
          clear n0_ n1_ n2_ n3_ n4_ n5_
          replace BK313 := Aside0.mk (blk_drew BK313.out)
          replace BK314 := Aside0.mk (blk_drew BK314.out)
          replace BK317 := Aside0.mk (blk_drew BK317.out)
          replace BK321 := Aside0.mk (blk_drew BK321.out)
          replace BK325 := Aside0.mk (blk_drew BK325.out)
          replace HB := Aside0.mk (below_drew1 HB.out)
          refine start_ (n := 15) (S := fun w' => w'.cell? ⟨gb317, 0, none⟩ = some (.int .i64 t315) ∧ w'.cell? ⟨gb317, 1, none⟩ = some (.int .i64 t316) ∧ w'.cell? ⟨gb313, 0, none⟩ = some (.int .i64 t309) ∧ w'.cell? ⟨gb313, 1, none⟩ = some (.int .i64 t310) ∧ w'.cell? ⟨gb314, 0, none⟩ = some (.int .i64 t311) ∧ w'.cell? ⟨gb314, 1, none⟩ = some (.int .i64 t312) ∧ w'.cell? ⟨gb321, 0, none⟩ = some (.int .i64 t318) ∧ w'.cell? ⟨gb321, 1, none⟩ = some (.int .i64 t319) ∧ w'.cell? ⟨gb325, 0, none⟩ = some (.int .i64 t322) ∧ w'.cell? ⟨gb325, 1, none⟩ = some (.int .i64 t323)) (ds := []) #[false, false, false, false, false, false, false, false, false, false, false, false, false, false, false] (by kernel_rfl) rfl rfl ⟨(blk_cell BK317.out 0).trans rfl, (blk_cell BK317.out 1).trans rfl, (blk_cell BK313.out 0).trans rfl, (blk_cell BK313.out 1).trans rfl, (blk_cell BK314.out 0).trans rfl, (blk_cell BK314.out 1).trans rfl, (blk_cell BK321.out 0).trans rfl, (blk_cell BK321.out 1).trans rfl, (blk_cell BK325.out 0).trans rfl, (blk_cell BK325.out 1).trans rfl⟩ (fun hHeld => ?_); refine with_tabW laws_FnRestLattice.tab7 laws_FnRestLattice.bits7 (fun HT_ HW_ => ?_)
          generalize w42.drew = w43 at BK313 BK314 BK317 BK321 BK325 HB hHeld ⊢
          refine sqw HT_ HW_ 0 35 hHeld ?_
          refine sqw HT_ HW_ 1 36 hHeld ?_
          refine sqw HT_ HW_ 2 37 hHeld ?_
          refine sqo HT_ 3 38 (fun K hK => ?_)
          refine sqG Try.func58 #[.agg #[.int .i64 t309, .int .i64 t310], .agg #[.int .i64 t311, .int .i64 t312]] ?_
          with_reducible refine (spec_RestJoin.calls k t309 t310 t311 t312 t326 t327 _ A36.out).mono ?_
          rintro e w44 ⟨rfl, hb⟩
          refine ⟨_, rfl, ?_⟩
          replace BK313 := sqb BK313 hb
          replace BK314 := sqb BK314 hb
          replace BK317 := sqb BK317 hb
          replace BK321 := sqb BK321 hb
          replace BK325 := sqb BK325 hb
          replace HB := sqs HB hb
          (try clear hb)
          refine hK.out _ _ sqz (fun hHeld => ?_)
          clear hK K
          refine sqnm ?_
          refine sqp HT_ 4 39 ?_
          refine sqp HT_ 5 40 ?_
          refine sqw HT_ HW_ 6 41 hHeld ?_
          refine sqw HT_ HW_ 7 42 hHeld ?_
          refine sqp HT_ 8 43 ?_
          refine sqp HT_ 9 44 ?_
          refine sqp HT_ 10 45 ?_
          refine sqpu HT_ 11 46 ?_
          refine sqpu HT_ 12 47 ?_
          refine sqpu HT_ 13 48 ?_
          refine sqp HT_ 14 49 ?_
          refine done_ (done_of HT_.out (by kernel_rfl)) ?_
          try go_wp2
          go_meet
          case rel => exact ⟨_, (true), (by first | rfl | (simp; done) | (simp [*]; done)), H', ⟨by first | omega | exact Nat.le_refl _⟩, sqk BK313, sqk BK314, sqk BK317, sqk BK321, sqk BK325, sqh HB⟩
        · rw [if_neg c41] at H
          have c41b0 : (!(t318 == t322) || (!(t319 == t323))) = false := by simpa using c41
          clear c41
          have H' := Aside0.mk H
          clear H
          try go_wp2
          have n0_ : Aside0 (((w30.setCell ⟨gb325, 0, none⟩ (.int .i64 t322)).setCell ⟨gb325, 1, none⟩ (.int .i64 t323)).heap[gb313]? = some (.cells #[.int .i64 t309, .int .i64 t310] 62 (0, 0))) := ⟨by refine sqt ?_; refine blk_far ?_ NB313_325.out _; refine sqt ?_; refine blk_far ?_ NB313_325.out _; refine sqt ?_; exact BK313.out⟩
          have n1_ : Aside0 (((w30.setCell ⟨gb325, 0, none⟩ (.int .i64 t322)).setCell ⟨gb325, 1, none⟩ (.int .i64 t323)).heap[gb314]? = some (.cells #[.int .i64 t311, .int .i64 t312] 62 (0, 0))) := ⟨by refine sqt ?_; refine blk_far ?_ NB314_325.out _; refine sqt ?_; refine blk_far ?_ NB314_325.out _; refine sqt ?_; exact BK314.out⟩
          have n2_ : Aside0 (((w30.setCell ⟨gb325, 0, none⟩ (.int .i64 t322)).setCell ⟨gb325, 1, none⟩ (.int .i64 t323)).heap[gb317]? = some (.cells #[.int .i64 t315, .int .i64 t316] 62 (0, 0))) := ⟨by refine sqt ?_; refine blk_far ?_ NB317_325.out _; refine sqt ?_; refine blk_far ?_ NB317_325.out _; refine sqt ?_; exact BK317.out⟩
          have n3_ : Aside0 (((w30.setCell ⟨gb325, 0, none⟩ (.int .i64 t322)).setCell ⟨gb325, 1, none⟩ (.int .i64 t323)).heap[gb321]? = some (.cells #[.int .i64 t318, .int .i64 t319] 62 (0, 0))) := ⟨by refine sqt ?_; refine blk_far ?_ NB321_325.out _; refine sqt ?_; refine blk_far ?_ NB321_325.out _; refine sqt ?_; exact BK321.out⟩
          have n4_ : Aside0 (((w30.setCell ⟨gb325, 0, none⟩ (.int .i64 t322)).setCell ⟨gb325, 1, none⟩ (.int .i64 t323)).heap[gb325]? = some (.cells #[.int .i64 t322, .int .i64 t323] 62 (0, 0))) := ⟨by refine sqt ?_; refine blk_put (cs := #[.int .i64 t322, .int .i64 0]) ?_ 1 _ rfl; refine sqt ?_; refine blk_put (cs := #[.int .i64 0, .int .i64 0]) ?_ 0 _ rfl; refine sqt ?_; exact BK325.out⟩
          have n5_ : Aside0 (Below w.heap.size w ((w30.setCell ⟨gb325, 0, none⟩ (.int .i64 t322)).setCell ⟨gb325, 1, none⟩ (.int .i64 t323))) := sqh HB
          (try clear BK313)
          (try clear BK314)
          (try clear BK317)
          (try clear BK321)
          (try clear BK325)
          (try clear HB)
          generalize ((w30.setCell ⟨gb325, 0, none⟩ (.int .i64 t322)).setCell ⟨gb325, 1, none⟩ (.int .i64 t323)) = w45 at n0_ n1_ n2_ n3_ n4_ n5_ ⊢
          have BK313 := n0_
          have BK314 := n1_
          have BK317 := n2_
          have BK321 := n3_
          have BK325 := n4_
          have HB := n5_
          clear n0_ n1_ n2_ n3_ n4_ n5_
          replace BK313 := Aside0.mk (blk_drew BK313.out)
          replace BK314 := Aside0.mk (blk_drew BK314.out)
          replace BK317 := Aside0.mk (blk_drew BK317.out)
          replace BK321 := Aside0.mk (blk_drew BK321.out)
          replace BK325 := Aside0.mk (blk_drew BK325.out)
          replace HB := Aside0.mk (below_drew1 HB.out)
          refine start_ (n := 15) (S := fun w' => w'.cell? ⟨gb317, 0, none⟩ = some (.int .i64 t315) ∧ w'.cell? ⟨gb317, 1, none⟩ = some (.int .i64 t316) ∧ w'.cell? ⟨gb313, 0, none⟩ = some (.int .i64 t309) ∧ w'.cell? ⟨gb313, 1, none⟩ = some (.int .i64 t310) ∧ w'.cell? ⟨gb314, 0, none⟩ = some (.int .i64 t311) ∧ w'.cell? ⟨gb314, 1, none⟩ = some (.int .i64 t312) ∧ w'.cell? ⟨gb321, 0, none⟩ = some (.int .i64 t318) ∧ w'.cell? ⟨gb321, 1, none⟩ = some (.int .i64 t319) ∧ w'.cell? ⟨gb325, 0, none⟩ = some (.int .i64 t322) ∧ w'.cell? ⟨gb325, 1, none⟩ = some (.int .i64 t323)) (ds := []) #[false, false, false, false, false, false, false, false, false, false, false, false, false, false, false] (by kernel_rfl) rfl rfl ⟨(blk_cell BK317.out 0).trans rfl, (blk_cell BK317.out 1).trans rfl, (blk_cell BK313.out 0).trans rfl, (blk_cell BK313.out 1).trans rfl, (blk_cell BK314.out 0).trans rfl, (blk_cell BK314.out 1).trans rfl, (blk_cell BK321.out 0).trans rfl, (blk_cell BK321.out 1).trans rfl, (blk_cell BK325.out 0).trans rfl, (blk_cell BK325.out 1).trans rfl⟩ (fun hHeld => ?_); refine with_tabW laws_FnRestLattice.tab7 laws_FnRestLattice.bits7 (fun HT_ HW_ => ?_)
          generalize w45.drew = w46 at BK313 BK314 BK317 BK321 BK325 HB hHeld ⊢
          refine sqw HT_ HW_ 0 35 hHeld ?_
          refine sqw HT_ HW_ 1 36 hHeld ?_
          refine sqw HT_ HW_ 2 37 hHeld ?_
          refine sqo HT_ 3 38 (fun K hK => ?_)
          refine sqG Try.func58 #[.agg #[.int .i64 t309, .int .i64 t310], .agg #[.int .i64 t311, .int .i64 t312]] ?_
          with_reducible refine (spec_RestJoin.calls k t309 t310 t311 t312 t326 t327 _ A36.out).mono ?_
          rintro e w47 ⟨rfl, hb⟩
          refine ⟨_, rfl, ?_⟩
          replace BK313 := sqb BK313 hb
          replace BK314 := sqb BK314 hb
          replace BK317 := sqb BK317 hb
          replace BK321 := sqb BK321 hb
          replace BK325 := sqb BK325 hb
          replace HB := sqs HB hb
          (try clear hb)
          refine hK.out _ _ sqz (fun hHeld => ?_)
          clear hK K
          refine sqnm ?_
          refine sqp HT_ 4 39 ?_
          refine sqp HT_ 5 40 ?_
          refine sqw HT_ HW_ 6 41 hHeld ?_
          refine sqw HT_ HW_ 7 42 hHeld ?_
          refine sqp HT_ 8 43 ?_
          refine sqp HT_ 9 44 ?_
          refine sqp HT_ 10 45 ?_
          refine sqp HT_ 11 46 ?_
          refine sqp HT_ 12 47 ?_
          refine sqp HT_ 13 48 ?_
          refine sqp HT_ 14 49 ?_
          refine done_ (done_of HT_.out (by kernel_rfl)) ?_
          try go_wp2
          go_meet
          case rel => exact ⟨_, ((t320 != t324)), (by first | rfl | (simp; done) | (simp [*]; done)), H', ⟨by first | omega | exact Nat.le_refl _⟩, sqk BK313, sqk BK314, sqk BK317, sqk BK321, sqk BK325, sqh HB⟩
    case rest =>
      as_aux_lemma =>
      clear HC7
      try clear c2
      try clear hcz12_0
      try clear hcz12_1
      try clear hcz13_0
      try clear hcz13_1
      try clear hcz18_0
      try clear hcz18_1
      try clear hcz19_0
      try clear hcz19_1
      try clear hcz20_0
      try clear hcz20_1
      try clear hcz26_0
      try clear hcz26_1
      try clear hcz27_0
      try clear hcz27_1
      try clear hcz28_0
      try clear hcz28_1
      try clear hcz35_0
      try clear hcz35_1
      try clear hfz12_0
      try clear hfz12_1
      try clear hfz13_0
      try clear hfz13_1
      try clear hfz18_0
      try clear hfz18_1
      try clear hfz19_0
      try clear hfz19_1
      try clear hfz20_0
      try clear hfz20_1
      try clear hfz26_0
      try clear hfz26_1
      try clear hfz27_0
      try clear hfz27_1
      try clear hfz28_0
      try clear hfz28_1
      try clear hfz35_0
      try clear hfz35_1
      obtain ⟨kq, x49_6, rfl, HA, HJ6, BK313, BK314, BK317, BK321, BK325, HB⟩ := hcut
      cases kq with
      | zero => exact absurd HA.out (by simp [laws_FnRestLattice.j0])
      | succ kj6 =>
        have H := HA.out
        clear HA
        simp only [laws_FnRestLattice.j0] at H
        by_cases c48 : x49_6 = true
        · subst c48
          have H1 : (some false) = some r := by rw [if_pos rfl] at H; exact H
          clear H
          have H := H1
          clear H1
          obtain rfl := Option.some.inj H
          go_wp2
          go_ret
          exact sqe HB
        · replace c48 := Bool.eq_false_iff.mpr c48
          subst c48
          have H1 : ((spec_RestOk.f t309 t310).bind fun t328 => (if t328 = true then ((spec_RestOk.f t311 t312).bind fun t329 => (laws_FnRestLattice.j1 kj6 l0 t320 (!t329) t309 t310 t311 t312 t315 t316 t318 t319)) else (laws_FnRestLattice.j1 kj6 l0 t320 true t309 t310 t311 t312 t315 t316 t318 t319))) = some r := by rw [if_neg (show ¬ (false = true) by decide)] at H; exact H
          clear H
          have H := H1
          clear H1
          have HC49 := Aside0.mk H
          clear H
          go_upto_region 9 with (fail)
          go_cut [57] (fun v57 wc => ∃ (kq : Nat) (x57_48 : Bool), v57 = .bool x57_48 ∧ Aside0 (laws_FnRestLattice.j1 kq l0 t320 x57_48 t309 t310 t311 t312 t315 t316 t318 t319 = some r) ∧ Aside0 (kq ≤ kj6) ∧ Aside0 (wc.heap[gb313]? = some (.cells #[.int .i64 t309, .int .i64 t310] 62 (0, 0))) ∧ Aside0 (wc.heap[gb314]? = some (.cells #[.int .i64 t311, .int .i64 t312] 62 (0, 0))) ∧ Aside0 (wc.heap[gb317]? = some (.cells #[.int .i64 t315, .int .i64 t316] 62 (0, 0))) ∧ Aside0 (wc.heap[gb321]? = some (.cells #[.int .i64 t318, .int .i64 t319] 62 (0, 0))) ∧ Aside0 (wc.heap[gb325]? = some (.cells #[.int .i64 t322, .int .i64 t323] 62 (0, 0))) ∧ Aside0 (Below w.heap.size w wc))
          case first =>
            as_aux_lemma =>
            have H := HC49.out
            clear HC49
            replace H := Option.bind_eq_some_iff.mp H
            obtain ⟨t328, A500, H⟩ := H
            replace H : (if t328 = true then ((spec_RestOk.f t311 t312).bind fun t329 => (laws_FnRestLattice.j1 kj6 l0 t320 (!t329) t309 t310 t311 t312 t315 t316 t318 t319)) else (laws_FnRestLattice.j1 kj6 l0 t320 true t309 t310 t311 t312 t315 t316 t318 t319)) = some r := H
            have A50 := Aside0.mk A500
            clear A500
            by_cases c51 : t328 = true
            · subst c51
              have H1 : ((spec_RestOk.f t311 t312).bind fun t329 => (laws_FnRestLattice.j1 kj6 l0 t320 (!t329) t309 t310 t311 t312 t315 t316 t318 t319)) = some r := by rw [if_pos rfl] at H; exact H
              clear H
              have H := H1
              clear H1
              replace H := Option.bind_eq_some_iff.mp H
              obtain ⟨t329, A520, H⟩ := H
              replace H : (laws_FnRestLattice.j1 kj6 l0 t320 (!t329) t309 t310 t311 t312 t315 t316 t318 t319) = some r := H
              have A52 := Aside0.mk A520
              clear A520
              have H' := Aside0.mk H
              clear H
              have hnb53 := NB313_314.out
              have hnc53 := NB314_313.out
              have hnb54 := NB313_317.out
              have hnc54 := NB317_313.out
              have hnb55 := NB313_321.out
              have hnc55 := NB321_313.out
              have hnb56 := NB313_325.out
              have hnc56 := NB325_313.out
              obtain ⟨hcz57_0, hcz57_1, hfz57_0, hfz57_1⟩ := sqc2 BK313
              go_wp2_with (first | ((with_reducible refine gate_callee (f := 59) rfl ?_); refine sqL (some 51) Try.func59 #[.agg #[.int .i64 t309, .int .i64 t310]] ?_; (with_reducible refine (spec_RestOk.calls t309 t310 true _ A50.out).mono ?_); rintro e w58 ⟨rfl, hb⟩; refine ⟨_, rfl, ?_⟩; replace BK313 := sqb BK313 hb; replace BK314 := sqb BK314 hb; replace BK317 := sqb BK317 hb; replace BK321 := sqb BK321 hb; replace BK325 := sqb BK325 hb; replace HB := sqs HB hb; (try clear hb); have hnb59 := NB314_317.out; have hnc59 := NB317_314.out; have hnb60 := NB314_321.out; have hnc60 := NB321_314.out; have hnb61 := NB314_325.out; have hnc61 := NB325_314.out; obtain ⟨hcz62_0, hcz62_1, hfz62_0, hfz62_1⟩ := sqc2 BK314) | (go_at_call 59; (with_reducible refine (spec_RestOk.calls t311 t312 t329 _ A52.out).mono ?_); rintro e w63 ⟨rfl, hb⟩; replace BK313 := sqb BK313 hb; replace BK314 := sqb BK314 hb; replace BK317 := sqb BK317 hb; replace BK321 := sqb BK321 hb; replace BK325 := sqb BK325 hb; replace HB := sqs HB hb; (try clear hb)))
              go_meet
              case rel => exact ⟨_, (!t329), (by first | rfl | (simp; done) | (simp [*]; done)), H', ⟨by have := HJ6.out; first | omega | exact Nat.le_refl _⟩, sqk BK313, sqk BK314, sqk BK317, sqk BK321, sqk BK325, sqh HB⟩
            · replace c51 := Bool.eq_false_iff.mpr c51
              subst c51
              have H1 : (laws_FnRestLattice.j1 kj6 l0 t320 true t309 t310 t311 t312 t315 t316 t318 t319) = some r := by rw [if_neg (show ¬ (false = true) by decide)] at H; exact H
              clear H
              have H := H1
              clear H1
              have H' := Aside0.mk H
              clear H
              have hnb64 := NB313_314.out
              have hnc64 := NB314_313.out
              have hnb65 := NB313_317.out
              have hnc65 := NB317_313.out
              have hnb66 := NB313_321.out
              have hnc66 := NB321_313.out
              have hnb67 := NB313_325.out
              have hnc67 := NB325_313.out
              obtain ⟨hcz68_0, hcz68_1, hfz68_0, hfz68_1⟩ := sqc2 BK313
              go_wp2_with (first | ((with_reducible refine gate_callee (f := 59) rfl ?_); refine sqL (some 51) Try.func59 #[.agg #[.int .i64 t309, .int .i64 t310]] ?_; (with_reducible refine (spec_RestOk.calls t309 t310 false _ A50.out).mono ?_); rintro e w69 ⟨rfl, hb⟩; refine ⟨_, rfl, ?_⟩; replace BK313 := sqb BK313 hb; replace BK314 := sqb BK314 hb; replace BK317 := sqb BK317 hb; replace BK321 := sqb BK321 hb; replace BK325 := sqb BK325 hb; replace HB := sqs HB hb; (try clear hb)))
              go_meet
              case rel => exact ⟨_, (true), (by first | rfl | (simp; done) | (simp [*]; done)), H', ⟨by have := HJ6.out; first | omega | exact Nat.le_refl _⟩, sqk BK313, sqk BK314, sqk BK317, sqk BK321, sqk BK325, sqh HB⟩
          case rest =>
            as_aux_lemma =>
            clear HC49
            try clear c2
            try clear c37
            try clear c37b0
            try clear c41
            try clear c41b0
            try clear c48
            try clear hcz12_0
            try clear hcz12_1
            try clear hcz13_0
            try clear hcz13_1
            try clear hcz18_0
            try clear hcz18_1
            try clear hcz19_0
            try clear hcz19_1
            try clear hcz20_0
            try clear hcz20_1
            try clear hcz26_0
            try clear hcz26_1
            try clear hcz27_0
            try clear hcz27_1
            try clear hcz28_0
            try clear hcz28_1
            try clear hcz35_0
            try clear hcz35_1
            try clear hfz12_0
            try clear hfz12_1
            try clear hfz13_0
            try clear hfz13_1
            try clear hfz18_0
            try clear hfz18_1
            try clear hfz19_0
            try clear hfz19_1
            try clear hfz20_0
            try clear hfz20_1
            try clear hfz26_0
            try clear hfz26_1
            try clear hfz27_0
            try clear hfz27_1
            try clear hfz28_0
            try clear hfz28_1
            try clear hfz35_0
            try clear hfz35_1
            obtain ⟨kq, x57_48, rfl, HA, HJ48, BK313, BK314, BK317, BK321, BK325, HB⟩ := hcut
            cases kq with
            | zero => exact absurd HA.out (by simp [laws_FnRestLattice.j1])
            | succ kj48 =>
              have H := HA.out
              clear HA
              simp only [laws_FnRestLattice.j1] at H
              by_cases c70 : x57_48 = true
              · subst c70
                have H1 : (if t320 = true then (some false) else (some (t315 == 1 && (t316 == 0)))) = some r := by rw [if_pos rfl] at H; exact H
                clear H
                have H := H1
                clear H1
                by_cases c71 : t320 = true
                · subst c71
                  have H1 : (some false) = some r := by rw [if_pos rfl] at H; exact H
                  clear H
                  have H := H1
                  clear H1
                  obtain rfl := Option.some.inj H
                  go_wp2
                  go_ret
                  exact sqe HB
                · replace c71 := Bool.eq_false_iff.mpr c71
                  subst c71
                  have H1 : (some (t315 == 1 && (t316 == 0))) = some r := by rw [if_neg (show ¬ (false = true) by decide)] at H; exact H
                  clear H
                  have H := H1
                  clear H1
                  obtain rfl := Option.some.inj H
                  have hnb72 := NB317_313.out
                  have hnc72 := NB313_317.out
                  have hnb73 := NB317_314.out
                  have hnc73 := NB314_317.out
                  have hnb74 := NB317_321.out
                  have hnc74 := NB321_317.out
                  have hnb75 := NB317_325.out
                  have hnc75 := NB325_317.out
                  obtain ⟨hcz76_0, hcz76_1, hfz76_0, hfz76_1⟩ := sqc2 BK317
                  go_wp2
                  go_ret
                  exact sqe HB
              · replace c70 := Bool.eq_false_iff.mpr c70
                subst c70
                have H1 : ((impl_RestIn.f kj48 t309 t310 t315 t316).bind fun t330 => (if t330 = true then ((impl_RestIn.f kj48 t311 t312 t315 t316).bind fun t331 => (if t331 = true then (if t320 = true then ((impl_RestOk.f t318 t319).bind fun t332 => (laws_FnRestLattice.j2 kj48 l0 t320 (!t332) t309 t310 t311 t312 t315 t316 t318 t319)) else (laws_FnRestLattice.j2 kj48 l0 t320 false t309 t310 t311 t312 t315 t316 t318 t319)) else (laws_FnRestLattice.j2 kj48 l0 t320 true t309 t310 t311 t312 t315 t316 t318 t319))) else (laws_FnRestLattice.j2 kj48 l0 t320 true t309 t310 t311 t312 t315 t316 t318 t319))) = some r := by rw [if_neg (show ¬ (false = true) by decide)] at H; exact H
                clear H
                have H := H1
                clear H1
                have HC77 := Aside0.mk H
                clear H
                go_upto_region 11 with (fail)
                go_cut [82] (fun v82 wc => ∃ (kq : Nat) (x82_76 : Bool), v82 = .bool x82_76 ∧ Aside0 (laws_FnRestLattice.j2 kq l0 t320 x82_76 t309 t310 t311 t312 t315 t316 t318 t319 = some r) ∧ Aside0 (kq ≤ kj48) ∧ Aside0 (wc.heap[gb313]? = some (.cells #[.int .i64 t309, .int .i64 t310] 62 (0, 0))) ∧ Aside0 (wc.heap[gb314]? = some (.cells #[.int .i64 t311, .int .i64 t312] 62 (0, 0))) ∧ Aside0 (wc.heap[gb317]? = some (.cells #[.int .i64 t315, .int .i64 t316] 62 (0, 0))) ∧ Aside0 (wc.heap[gb321]? = some (.cells #[.int .i64 t318, .int .i64 t319] 62 (0, 0))) ∧ Aside0 (wc.heap[gb325]? = some (.cells #[.int .i64 t322, .int .i64 t323] 62 (0, 0))) ∧ Aside0 (Below w.heap.size w wc))
                case first =>
                  as_aux_lemma =>
                  have H := HC77.out
                  clear HC77
                  replace H := Option.bind_eq_some_iff.mp H
                  obtain ⟨t330, A780, H⟩ := H
                  replace H : (if t330 = true then ((impl_RestIn.f kj48 t311 t312 t315 t316).bind fun t331 => (if t331 = true then (if t320 = true then ((impl_RestOk.f t318 t319).bind fun t332 => (laws_FnRestLattice.j2 kj48 l0 t320 (!t332) t309 t310 t311 t312 t315 t316 t318 t319)) else (laws_FnRestLattice.j2 kj48 l0 t320 false t309 t310 t311 t312 t315 t316 t318 t319)) else (laws_FnRestLattice.j2 kj48 l0 t320 true t309 t310 t311 t312 t315 t316 t318 t319))) else (laws_FnRestLattice.j2 kj48 l0 t320 true t309 t310 t311 t312 t315 t316 t318 t319)) = some r := H
                  have A78 := Aside0.mk A780
                  clear A780
                  by_cases c79 : t330 = true
                  · subst c79
                    have H1 : ((impl_RestIn.f kj48 t311 t312 t315 t316).bind fun t331 => (if t331 = true then (if t320 = true then ((impl_RestOk.f t318 t319).bind fun t332 => (laws_FnRestLattice.j2 kj48 l0 t320 (!t332) t309 t310 t311 t312 t315 t316 t318 t319)) else (laws_FnRestLattice.j2 kj48 l0 t320 false t309 t310 t311 t312 t315 t316 t318 t319)) else (laws_FnRestLattice.j2 kj48 l0 t320 true t309 t310 t311 t312 t315 t316 t318 t319))) = some r := by rw [if_pos rfl] at H; exact H
                    clear H
                    have H := H1
                    clear H1
                    replace H := Option.bind_eq_some_iff.mp H
                    obtain ⟨t331, A800, H⟩ := H
                    replace H : (if t331 = true then (if t320 = true then ((impl_RestOk.f t318 t319).bind fun t332 => (laws_FnRestLattice.j2 kj48 l0 t320 (!t332) t309 t310 t311 t312 t315 t316 t318 t319)) else (laws_FnRestLattice.j2 kj48 l0 t320 false t309 t310 t311 t312 t315 t316 t318 t319)) else (laws_FnRestLattice.j2 kj48 l0 t320 true t309 t310 t311 t312 t315 t316 t318 t319)) = some r := H
                    have A80 := Aside0.mk A800
                    clear A800
                    by_cases c81 : t331 = true
                    · subst c81
                      have H1 : (if t320 = true then ((impl_RestOk.f t318 t319).bind fun t332 => (laws_FnRestLattice.j2 kj48 l0 t320 (!t332) t309 t310 t311 t312 t315 t316 t318 t319)) else (laws_FnRestLattice.j2 kj48 l0 t320 false t309 t310 t311 t312 t315 t316 t318 t319)) = some r := by rw [if_pos rfl] at H; exact H
                      clear H
                      have H := H1
                      clear H1
                      by_cases c82 : t320 = true
                      · subst c82
                        have H1 : ((impl_RestOk.f t318 t319).bind fun t332 => (laws_FnRestLattice.j2 kj48 l0 true (!t332) t309 t310 t311 t312 t315 t316 t318 t319)) = some r := by rw [if_pos rfl] at H; exact H
                        clear H
                        have H := H1
                        clear H1
                        replace H := Option.bind_eq_some_iff.mp H
                        obtain ⟨t332, A830, H⟩ := H
                        replace H : (laws_FnRestLattice.j2 kj48 l0 true (!t332) t309 t310 t311 t312 t315 t316 t318 t319) = some r := H
                        have A83 := Aside0.mk A830
                        clear A830
                        have H' := Aside0.mk H
                        clear H
                        have hnb84 := NB313_314.out
                        have hnc84 := NB314_313.out
                        have hnb85 := NB313_317.out
                        have hnc85 := NB317_313.out
                        have hnb86 := NB313_321.out
                        have hnc86 := NB321_313.out
                        have hnb87 := NB313_325.out
                        have hnc87 := NB325_313.out
                        obtain ⟨hcz88_0, hcz88_1, hfz88_0, hfz88_1⟩ := sqc2 BK313
                        have hnb89 := NB317_314.out
                        have hnc89 := NB314_317.out
                        have hnb90 := NB317_321.out
                        have hnc90 := NB321_317.out
                        have hnb91 := NB317_325.out
                        have hnc91 := NB325_317.out
                        obtain ⟨hcz92_0, hcz92_1, hfz92_0, hfz92_1⟩ := sqc2 BK317
                        go_wp2_with (first | ((with_reducible refine gate_callee (f := 60) rfl ?_); refine sqL (some 67) Try.func60 #[.agg #[.int .i64 t309, .int .i64 t310], .agg #[.int .i64 t315, .int .i64 t316]] ?_; (with_reducible refine (impl_RestIn.calls kj48 t309 t310 t315 t316 true _ A78.out).mono ?_); rintro e w93 ⟨rfl, hb⟩; refine ⟨_, rfl, ?_⟩; replace BK313 := sqb BK313 hb; replace BK314 := sqb BK314 hb; replace BK317 := sqb BK317 hb; replace BK321 := sqb BK321 hb; replace BK325 := sqb BK325 hb; replace HB := sqs HB hb; (try clear hb); have hnb94 := NB314_321.out; have hnc94 := NB321_314.out; have hnb95 := NB314_325.out; have hnc95 := NB325_314.out; obtain ⟨hcz96_0, hcz96_1, hfz96_0, hfz96_1⟩ := sqc2 BK314; obtain ⟨hcz97_0, hcz97_1, hfz97_0, hfz97_1⟩ := sqc2 BK317) | (go_at_call 60; (with_reducible refine (impl_RestIn.calls kj48 t311 t312 t315 t316 true _ A80.out).mono ?_); rintro e w98 ⟨rfl, hb⟩; replace BK313 := sqb BK313 hb; replace BK314 := sqb BK314 hb; replace BK317 := sqb BK317 hb; replace BK321 := sqb BK321 hb; replace BK325 := sqb BK325 hb; replace HB := sqs HB hb; (try clear hb); have hnb99 := NB321_325.out; have hnc99 := NB325_321.out; obtain ⟨hcz100_0, hcz100_1, hfz100_0, hfz100_1⟩ := sqc2 BK321) | (go_at_call 61; (with_reducible refine (impl_RestOk.calls t318 t319 t332 _ A83.out).mono ?_); rintro e w101 ⟨rfl, hb⟩; replace BK313 := sqb BK313 hb; replace BK314 := sqb BK314 hb; replace BK317 := sqb BK317 hb; replace BK321 := sqb BK321 hb; replace BK325 := sqb BK325 hb; replace HB := sqs HB hb; (try clear hb)))
                        go_meet
                        case rel => exact ⟨_, (!t332), (by first | rfl | (simp; done) | (simp [*]; done)), H', ⟨by have := HJ6.out; have := HJ48.out; first | omega | exact Nat.le_refl _⟩, sqk BK313, sqk BK314, sqk BK317, sqk BK321, sqk BK325, sqh HB⟩
                      · replace c82 := Bool.eq_false_iff.mpr c82
                        subst c82
                        have H1 : (laws_FnRestLattice.j2 kj48 l0 false false t309 t310 t311 t312 t315 t316 t318 t319) = some r := by rw [if_neg (show ¬ (false = true) by decide)] at H; exact H
                        clear H
                        have H := H1
                        clear H1
                        have H' := Aside0.mk H
                        clear H
                        have hnb102 := NB313_314.out
                        have hnc102 := NB314_313.out
                        have hnb103 := NB313_317.out
                        have hnc103 := NB317_313.out
                        have hnb104 := NB313_321.out
                        have hnc104 := NB321_313.out
                        have hnb105 := NB313_325.out
                        have hnc105 := NB325_313.out
                        obtain ⟨hcz106_0, hcz106_1, hfz106_0, hfz106_1⟩ := sqc2 BK313
                        have hnb107 := NB317_314.out
                        have hnc107 := NB314_317.out
                        have hnb108 := NB317_321.out
                        have hnc108 := NB321_317.out
                        have hnb109 := NB317_325.out
                        have hnc109 := NB325_317.out
                        obtain ⟨hcz110_0, hcz110_1, hfz110_0, hfz110_1⟩ := sqc2 BK317
                        go_wp2_with (first | ((with_reducible refine gate_callee (f := 60) rfl ?_); refine sqL (some 67) Try.func60 #[.agg #[.int .i64 t309, .int .i64 t310], .agg #[.int .i64 t315, .int .i64 t316]] ?_; (with_reducible refine (impl_RestIn.calls kj48 t309 t310 t315 t316 true _ A78.out).mono ?_); rintro e w111 ⟨rfl, hb⟩; refine ⟨_, rfl, ?_⟩; replace BK313 := sqb BK313 hb; replace BK314 := sqb BK314 hb; replace BK317 := sqb BK317 hb; replace BK321 := sqb BK321 hb; replace BK325 := sqb BK325 hb; replace HB := sqs HB hb; (try clear hb); have hnb112 := NB314_321.out; have hnc112 := NB321_314.out; have hnb113 := NB314_325.out; have hnc113 := NB325_314.out; obtain ⟨hcz114_0, hcz114_1, hfz114_0, hfz114_1⟩ := sqc2 BK314; obtain ⟨hcz115_0, hcz115_1, hfz115_0, hfz115_1⟩ := sqc2 BK317) | (go_at_call 60; (with_reducible refine (impl_RestIn.calls kj48 t311 t312 t315 t316 true _ A80.out).mono ?_); rintro e w116 ⟨rfl, hb⟩; replace BK313 := sqb BK313 hb; replace BK314 := sqb BK314 hb; replace BK317 := sqb BK317 hb; replace BK321 := sqb BK321 hb; replace BK325 := sqb BK325 hb; replace HB := sqs HB hb; (try clear hb)))
                        go_meet
                        case rel => exact ⟨_, (false), (by first | rfl | (simp; done) | (simp [*]; done)), H', ⟨by have := HJ6.out; have := HJ48.out; first | omega | exact Nat.le_refl _⟩, sqk BK313, sqk BK314, sqk BK317, sqk BK321, sqk BK325, sqh HB⟩
                    · replace c81 := Bool.eq_false_iff.mpr c81
                      subst c81
                      have H1 : (laws_FnRestLattice.j2 kj48 l0 t320 true t309 t310 t311 t312 t315 t316 t318 t319) = some r := by rw [if_neg (show ¬ (false = true) by decide)] at H; exact H
                      clear H
                      have H := H1
                      clear H1
                      have H' := Aside0.mk H
                      clear H
                      have hnb117 := NB313_314.out
                      have hnc117 := NB314_313.out
                      have hnb118 := NB313_317.out
                      have hnc118 := NB317_313.out
                      have hnb119 := NB313_321.out
                      have hnc119 := NB321_313.out
                      have hnb120 := NB313_325.out
                      have hnc120 := NB325_313.out
                      obtain ⟨hcz121_0, hcz121_1, hfz121_0, hfz121_1⟩ := sqc2 BK313
                      have hnb122 := NB317_314.out
                      have hnc122 := NB314_317.out
                      have hnb123 := NB317_321.out
                      have hnc123 := NB321_317.out
                      have hnb124 := NB317_325.out
                      have hnc124 := NB325_317.out
                      obtain ⟨hcz125_0, hcz125_1, hfz125_0, hfz125_1⟩ := sqc2 BK317
                      go_wp2_with (first | ((with_reducible refine gate_callee (f := 60) rfl ?_); refine sqL (some 67) Try.func60 #[.agg #[.int .i64 t309, .int .i64 t310], .agg #[.int .i64 t315, .int .i64 t316]] ?_; (with_reducible refine (impl_RestIn.calls kj48 t309 t310 t315 t316 true _ A78.out).mono ?_); rintro e w126 ⟨rfl, hb⟩; refine ⟨_, rfl, ?_⟩; replace BK313 := sqb BK313 hb; replace BK314 := sqb BK314 hb; replace BK317 := sqb BK317 hb; replace BK321 := sqb BK321 hb; replace BK325 := sqb BK325 hb; replace HB := sqs HB hb; (try clear hb); have hnb127 := NB314_321.out; have hnc127 := NB321_314.out; have hnb128 := NB314_325.out; have hnc128 := NB325_314.out; obtain ⟨hcz129_0, hcz129_1, hfz129_0, hfz129_1⟩ := sqc2 BK314; obtain ⟨hcz130_0, hcz130_1, hfz130_0, hfz130_1⟩ := sqc2 BK317) | (go_at_call 60; (with_reducible refine (impl_RestIn.calls kj48 t311 t312 t315 t316 false _ A80.out).mono ?_); rintro e w131 ⟨rfl, hb⟩; replace BK313 := sqb BK313 hb; replace BK314 := sqb BK314 hb; replace BK317 := sqb BK317 hb; replace BK321 := sqb BK321 hb; replace BK325 := sqb BK325 hb; replace HB := sqs HB hb; (try clear hb)))
                      go_meet
                      case rel => exact ⟨_, (true), (by first | rfl | (simp; done) | (simp [*]; done)), H', ⟨by have := HJ6.out; have := HJ48.out; first | omega | exact Nat.le_refl _⟩, sqk BK313, sqk BK314, sqk BK317, sqk BK321, sqk BK325, sqh HB⟩
                  · replace c79 := Bool.eq_false_iff.mpr c79
                    subst c79
                    have H1 : (laws_FnRestLattice.j2 kj48 l0 t320 true t309 t310 t311 t312 t315 t316 t318 t319) = some r := by rw [if_neg (show ¬ (false = true) by decide)] at H; exact H
                    clear H
                    have H := H1
                    clear H1
                    have H' := Aside0.mk H
                    clear H
                    have hnb132 := NB313_314.out
                    have hnc132 := NB314_313.out
                    have hnb133 := NB313_317.out
                    have hnc133 := NB317_313.out
                    have hnb134 := NB313_321.out
                    have hnc134 := NB321_313.out
                    have hnb135 := NB313_325.out
                    have hnc135 := NB325_313.out
                    obtain ⟨hcz136_0, hcz136_1, hfz136_0, hfz136_1⟩ := sqc2 BK313
                    have hnb137 := NB317_314.out
                    have hnc137 := NB314_317.out
                    have hnb138 := NB317_321.out
                    have hnc138 := NB321_317.out
                    have hnb139 := NB317_325.out
                    have hnc139 := NB325_317.out
                    obtain ⟨hcz140_0, hcz140_1, hfz140_0, hfz140_1⟩ := sqc2 BK317
                    go_wp2_with (first | ((with_reducible refine gate_callee (f := 60) rfl ?_); refine sqL (some 67) Try.func60 #[.agg #[.int .i64 t309, .int .i64 t310], .agg #[.int .i64 t315, .int .i64 t316]] ?_; (with_reducible refine (impl_RestIn.calls kj48 t309 t310 t315 t316 false _ A78.out).mono ?_); rintro e w141 ⟨rfl, hb⟩; refine ⟨_, rfl, ?_⟩; replace BK313 := sqb BK313 hb; replace BK314 := sqb BK314 hb; replace BK317 := sqb BK317 hb; replace BK321 := sqb BK321 hb; replace BK325 := sqb BK325 hb; replace HB := sqs HB hb; (try clear hb)))
                    go_meet
                    case rel => exact ⟨_, (true), (by first | rfl | (simp; done) | (simp [*]; done)), H', ⟨by have := HJ6.out; have := HJ48.out; first | omega | exact Nat.le_refl _⟩, sqk BK313, sqk BK314, sqk BK317, sqk BK321, sqk BK325, sqh HB⟩
                case rest =>
                  as_aux_lemma =>
                  clear HC77
                  try clear c2
                  try clear c37
                  try clear c37b0
                  try clear c41
                  try clear c41b0
                  try clear c48
                  try clear c51
                  try clear c70
                  try clear c71
                  try clear hcz12_0
                  try clear hcz12_1
                  try clear hcz13_0
                  try clear hcz13_1
                  try clear hcz18_0
                  try clear hcz18_1
                  try clear hcz19_0
                  try clear hcz19_1
                  try clear hcz20_0
                  try clear hcz20_1
                  try clear hcz26_0
                  try clear hcz26_1
                  try clear hcz27_0
                  try clear hcz27_1
                  try clear hcz28_0
                  try clear hcz28_1
                  try clear hcz35_0
                  try clear hcz35_1
                  try clear hcz57_0
                  try clear hcz57_1
                  try clear hcz62_0
                  try clear hcz62_1
                  try clear hcz68_0
                  try clear hcz68_1
                  try clear hcz76_0
                  try clear hcz76_1
                  try clear hfz12_0
                  try clear hfz12_1
                  try clear hfz13_0
                  try clear hfz13_1
                  try clear hfz18_0
                  try clear hfz18_1
                  try clear hfz19_0
                  try clear hfz19_1
                  try clear hfz20_0
                  try clear hfz20_1
                  try clear hfz26_0
                  try clear hfz26_1
                  try clear hfz27_0
                  try clear hfz27_1
                  try clear hfz28_0
                  try clear hfz28_1
                  try clear hfz35_0
                  try clear hfz35_1
                  try clear hfz57_0
                  try clear hfz57_1
                  try clear hfz62_0
                  try clear hfz62_1
                  try clear hfz68_0
                  try clear hfz68_1
                  try clear hfz76_0
                  try clear hfz76_1
                  obtain ⟨kq, x82_76, rfl, HA, HJ76, BK313, BK314, BK317, BK321, BK325, HB⟩ := hcut
                  cases kq with
                  | zero => exact absurd HA.out (by simp [laws_FnRestLattice.j2])
                  | succ kj76 =>
                    have H := HA.out
                    clear HA
                    simp only [laws_FnRestLattice.j2] at H
                    by_cases c142 : x82_76 = true
                    · subst c142
                      have H1 : (some false) = some r := by rw [if_pos rfl] at H; exact H
                      clear H
                      have H := H1
                      clear H1
                      obtain rfl := Option.some.inj H
                      go_wp2
                      go_ret
                      exact sqe HB
                    · replace c142 := Bool.eq_false_iff.mpr c142
                      subst c142
                      have H1 : (laws_FnRestLattice.l0 kj76 l0 t320 0 t309 t310 t311 t312 t315 t316 t318 t319) = some r := by rw [if_neg (show ¬ (false = true) by decide)] at H; exact H
                      clear H
                      have H := H1
                      clear H1
                      have H' := Aside0.mk H
                      clear H
                      go_wp2
                      go_loopg [10] kj76 (fun kq v10 w' => ∃ (x10_4 : Int), v10 = .int .i64 x10_4 ∧ Aside0 (laws_FnRestLattice.l0 kq l0 t320 x10_4 t309 t310 t311 t312 t315 t316 t318 t319 = some r) ∧ Aside0 (kq ≤ kj76) ∧ Aside0 (w'.heap[gb313]? = some (.cells #[.int .i64 t309, .int .i64 t310] 62 (0, 0))) ∧ Aside0 (w'.heap[gb314]? = some (.cells #[.int .i64 t311, .int .i64 t312] 62 (0, 0))) ∧ Aside0 (w'.heap[gb317]? = some (.cells #[.int .i64 t315, .int .i64 t316] 62 (0, 0))) ∧ Aside0 (w'.heap[gb321]? = some (.cells #[.int .i64 t318, .int .i64 t319] 62 (0, 0))) ∧ Aside0 (w'.heap[gb325]? = some (.cells #[.int .i64 t322, .int .i64 t323] 62 (0, 0))) ∧ Aside0 (Below w.heap.size w w'))
                      case atStart => exact ⟨(0), (by first | rfl | (simp; done) | (simp [*]; done)), H', ⟨Nat.le_refl _⟩, sqk BK313, sqk BK314, sqk BK317, sqk BK321, sqk BK325, sqh HB⟩
                      case round =>
                        clear H'
                        try clear c1
                        try clear c2
                        try clear p2
                        try clear c3
                        try clear c4
                        try clear c5
                        try clear c6
                        try clear c7
                        try clear c8
                        try clear c9
                        try clear c10
                        try clear c11
                        try clear c12
                        try clear c13
                        try clear c14
                        try clear c16
                        try clear c17
                        try clear c23
                        try clear c24
                        try clear c25
                        try clear c31
                        try clear c32
                        try clear c33
                        try clear c34
                        try clear c37
                        try clear c37b0
                        try clear c41
                        try clear c41b0
                        try clear c48
                        try clear c51
                        try clear c53
                        try clear c54
                        try clear c55
                        try clear c56
                        try clear c58
                        try clear c59
                        try clear c60
                        try clear c61
                        try clear c64
                        try clear c65
                        try clear c66
                        try clear c67
                        try clear c70
                        try clear c71
                        try clear c72
                        try clear c73
                        try clear c74
                        try clear c75
                        try clear c79
                        try clear c81
                        try clear c82
                        try clear c84
                        try clear c85
                        try clear c86
                        try clear c87
                        try clear c89
                        try clear c90
                        try clear c91
                        try clear c94
                        try clear c95
                        try clear c99
                        try clear c102
                        try clear c103
                        try clear c104
                        try clear c105
                        try clear c107
                        try clear c108
                        try clear c109
                        try clear c112
                        try clear c113
                        try clear c117
                        try clear c118
                        try clear c119
                        try clear c120
                        try clear c122
                        try clear c123
                        try clear c124
                        try clear c127
                        try clear c128
                        try clear c132
                        try clear c133
                        try clear c134
                        try clear c135
                        try clear c137
                        try clear c138
                        try clear c139
                        try clear c142
                        try clear hcz100_0
                        try clear hcz100_1
                        try clear hcz106_0
                        try clear hcz106_1
                        try clear hcz110_0
                        try clear hcz110_1
                        try clear hcz114_0
                        try clear hcz114_1
                        try clear hcz115_0
                        try clear hcz115_1
                        try clear hcz121_0
                        try clear hcz121_1
                        try clear hcz125_0
                        try clear hcz125_1
                        try clear hcz129_0
                        try clear hcz129_1
                        try clear hcz12_0
                        try clear hcz12_1
                        try clear hcz130_0
                        try clear hcz130_1
                        try clear hcz136_0
                        try clear hcz136_1
                        try clear hcz13_0
                        try clear hcz13_1
                        try clear hcz140_0
                        try clear hcz140_1
                        try clear hcz18_0
                        try clear hcz18_1
                        try clear hcz19_0
                        try clear hcz19_1
                        try clear hcz20_0
                        try clear hcz20_1
                        try clear hcz26_0
                        try clear hcz26_1
                        try clear hcz27_0
                        try clear hcz27_1
                        try clear hcz28_0
                        try clear hcz28_1
                        try clear hcz35_0
                        try clear hcz35_1
                        try clear hcz57_0
                        try clear hcz57_1
                        try clear hcz62_0
                        try clear hcz62_1
                        try clear hcz68_0
                        try clear hcz68_1
                        try clear hcz76_0
                        try clear hcz76_1
                        try clear hcz88_0
                        try clear hcz88_1
                        try clear hcz92_0
                        try clear hcz92_1
                        try clear hcz96_0
                        try clear hcz96_1
                        try clear hcz97_0
                        try clear hcz97_1
                        try clear hfz100_0
                        try clear hfz100_1
                        try clear hfz106_0
                        try clear hfz106_1
                        try clear hfz110_0
                        try clear hfz110_1
                        try clear hfz114_0
                        try clear hfz114_1
                        try clear hfz115_0
                        try clear hfz115_1
                        try clear hfz121_0
                        try clear hfz121_1
                        try clear hfz125_0
                        try clear hfz125_1
                        try clear hfz129_0
                        try clear hfz129_1
                        try clear hfz12_0
                        try clear hfz12_1
                        try clear hfz130_0
                        try clear hfz130_1
                        try clear hfz136_0
                        try clear hfz136_1
                        try clear hfz13_0
                        try clear hfz13_1
                        try clear hfz140_0
                        try clear hfz140_1
                        try clear hfz18_0
                        try clear hfz18_1
                        try clear hfz19_0
                        try clear hfz19_1
                        try clear hfz20_0
                        try clear hfz20_1
                        try clear hfz26_0
                        try clear hfz26_1
                        try clear hfz27_0
                        try clear hfz27_1
                        try clear hfz28_0
                        try clear hfz28_1
                        try clear hfz35_0
                        try clear hfz35_1
                        try clear hfz57_0
                        try clear hfz57_1
                        try clear hfz62_0
                        try clear hfz62_1
                        try clear hfz68_0
                        try clear hfz68_1
                        try clear hfz76_0
                        try clear hfz76_1
                        try clear hfz88_0
                        try clear hfz88_1
                        try clear hfz92_0
                        try clear hfz92_1
                        try clear hfz96_0
                        try clear hfz96_1
                        try clear hfz97_0
                        try clear hfz97_1
                        try clear p2
                        obtain ⟨x10_4, rfl, HA, HK4, BK313, BK314, BK317, BK321, BK325, HB⟩ := hrel
                        cases gk with
                        | zero => exact absurd HA.out (by simp [laws_FnRestLattice.l0])
                        | succ k4 =>
                          have H := HA.out
                          clear HA
                          simp only [laws_FnRestLattice.l0] at H
                          by_cases c143 : x10_4 < 8
                          · rw [if_pos c143] at H
                            have c143b0 : decide (x10_4 < 8) = true := decide_eq_true c143
                            clear c143
                            replace H := Option.bind_eq_some_iff.mp H
                            obtain ⟨t333, A1440, H⟩ := H
                            replace H : ((spec_RestHas.f k4 t309 t310 t333).bind fun t334 => (if t334 = true then ((impl_RestHas.f k4 t315 t316 t333).bind fun t335 => (if t335 = true then ((spec_RestHas.f k4 t309 t310 t333).bind fun t336 => (if t336 = true then ((spec_RestHas.f k4 t311 t312 t333).bind fun t337 => (if t337 = true then (if t320 = true then ((impl_RestHas.f k4 t318 t319 t333).bind fun t338 => (if t338 = true then (laws_FnRestLattice.l0 k4 l0 t320 (wrap64 (x10_4 + 1)) t309 t310 t311 t312 t315 t316 t318 t319) else (some false))) else (some false)) else (laws_FnRestLattice.l0 k4 l0 t320 (wrap64 (x10_4 + 1)) t309 t310 t311 t312 t315 t316 t318 t319))) else (laws_FnRestLattice.l0 k4 l0 t320 (wrap64 (x10_4 + 1)) t309 t310 t311 t312 t315 t316 t318 t319))) else (some false))) else ((spec_RestHas.f k4 t309 t310 t333).bind fun t339 => (if t339 = true then ((spec_RestHas.f k4 t311 t312 t333).bind fun t340 => (if t340 = true then (if t320 = true then ((impl_RestHas.f k4 t318 t319 t333).bind fun t341 => (if t341 = true then (laws_FnRestLattice.l0 k4 l0 t320 (wrap64 (x10_4 + 1)) t309 t310 t311 t312 t315 t316 t318 t319) else (some false))) else (some false)) else (laws_FnRestLattice.l0 k4 l0 t320 (wrap64 (x10_4 + 1)) t309 t310 t311 t312 t315 t316 t318 t319))) else (laws_FnRestLattice.l0 k4 l0 t320 (wrap64 (x10_4 + 1)) t309 t310 t311 t312 t315 t316 t318 t319))))) = some r := H
                            have A144 := Aside0.mk A1440
                            clear A1440
                            replace H := Option.bind_eq_some_iff.mp H
                            obtain ⟨t334, A1450, H⟩ := H
                            replace H : (if t334 = true then ((impl_RestHas.f k4 t315 t316 t333).bind fun t335 => (if t335 = true then ((spec_RestHas.f k4 t309 t310 t333).bind fun t336 => (if t336 = true then ((spec_RestHas.f k4 t311 t312 t333).bind fun t337 => (if t337 = true then (if t320 = true then ((impl_RestHas.f k4 t318 t319 t333).bind fun t338 => (if t338 = true then (laws_FnRestLattice.l0 k4 l0 t320 (wrap64 (x10_4 + 1)) t309 t310 t311 t312 t315 t316 t318 t319) else (some false))) else (some false)) else (laws_FnRestLattice.l0 k4 l0 t320 (wrap64 (x10_4 + 1)) t309 t310 t311 t312 t315 t316 t318 t319))) else (laws_FnRestLattice.l0 k4 l0 t320 (wrap64 (x10_4 + 1)) t309 t310 t311 t312 t315 t316 t318 t319))) else (some false))) else ((spec_RestHas.f k4 t309 t310 t333).bind fun t339 => (if t339 = true then ((spec_RestHas.f k4 t311 t312 t333).bind fun t340 => (if t340 = true then (if t320 = true then ((impl_RestHas.f k4 t318 t319 t333).bind fun t341 => (if t341 = true then (laws_FnRestLattice.l0 k4 l0 t320 (wrap64 (x10_4 + 1)) t309 t310 t311 t312 t315 t316 t318 t319) else (some false))) else (some false)) else (laws_FnRestLattice.l0 k4 l0 t320 (wrap64 (x10_4 + 1)) t309 t310 t311 t312 t315 t316 t318 t319))) else (laws_FnRestLattice.l0 k4 l0 t320 (wrap64 (x10_4 + 1)) t309 t310 t311 t312 t315 t316 t318 t319)))) = some r := H
                            have A145 := Aside0.mk A1450
                            clear A1450
                            by_cases c146 : t334 = true
                            · subst c146
                              have H1 : ((impl_RestHas.f k4 t315 t316 t333).bind fun t335 => (if t335 = true then ((spec_RestHas.f k4 t309 t310 t333).bind fun t336 => (if t336 = true then ((spec_RestHas.f k4 t311 t312 t333).bind fun t337 => (if t337 = true then (if t320 = true then ((impl_RestHas.f k4 t318 t319 t333).bind fun t338 => (if t338 = true then (laws_FnRestLattice.l0 k4 l0 t320 (wrap64 (x10_4 + 1)) t309 t310 t311 t312 t315 t316 t318 t319) else (some false))) else (some false)) else (laws_FnRestLattice.l0 k4 l0 t320 (wrap64 (x10_4 + 1)) t309 t310 t311 t312 t315 t316 t318 t319))) else (laws_FnRestLattice.l0 k4 l0 t320 (wrap64 (x10_4 + 1)) t309 t310 t311 t312 t315 t316 t318 t319))) else (some false))) = some r := by rw [if_pos rfl] at H; exact H
                              clear H
                              have H := H1
                              clear H1
                              replace H := Option.bind_eq_some_iff.mp H
                              obtain ⟨t335, A1470, H⟩ := H
                              replace H : (if t335 = true then ((spec_RestHas.f k4 t309 t310 t333).bind fun t336 => (if t336 = true then ((spec_RestHas.f k4 t311 t312 t333).bind fun t337 => (if t337 = true then (if t320 = true then ((impl_RestHas.f k4 t318 t319 t333).bind fun t338 => (if t338 = true then (laws_FnRestLattice.l0 k4 l0 t320 (wrap64 (x10_4 + 1)) t309 t310 t311 t312 t315 t316 t318 t319) else (some false))) else (some false)) else (laws_FnRestLattice.l0 k4 l0 t320 (wrap64 (x10_4 + 1)) t309 t310 t311 t312 t315 t316 t318 t319))) else (laws_FnRestLattice.l0 k4 l0 t320 (wrap64 (x10_4 + 1)) t309 t310 t311 t312 t315 t316 t318 t319))) else (some false)) = some r := H
                              have A147 := Aside0.mk A1470
                              clear A1470
                              by_cases c148 : t335 = true
                              · subst c148
                                have H1 : ((spec_RestHas.f k4 t309 t310 t333).bind fun t336 => (if t336 = true then ((spec_RestHas.f k4 t311 t312 t333).bind fun t337 => (if t337 = true then (if t320 = true then ((impl_RestHas.f k4 t318 t319 t333).bind fun t338 => (if t338 = true then (laws_FnRestLattice.l0 k4 l0 t320 (wrap64 (x10_4 + 1)) t309 t310 t311 t312 t315 t316 t318 t319) else (some false))) else (some false)) else (laws_FnRestLattice.l0 k4 l0 t320 (wrap64 (x10_4 + 1)) t309 t310 t311 t312 t315 t316 t318 t319))) else (laws_FnRestLattice.l0 k4 l0 t320 (wrap64 (x10_4 + 1)) t309 t310 t311 t312 t315 t316 t318 t319))) = some r := by rw [if_pos rfl] at H; exact H
                                clear H
                                have H := H1
                                clear H1
                                replace H := Option.bind_eq_some_iff.mp H
                                obtain ⟨t336, A1490, H⟩ := H
                                replace H : (if t336 = true then ((spec_RestHas.f k4 t311 t312 t333).bind fun t337 => (if t337 = true then (if t320 = true then ((impl_RestHas.f k4 t318 t319 t333).bind fun t338 => (if t338 = true then (laws_FnRestLattice.l0 k4 l0 t320 (wrap64 (x10_4 + 1)) t309 t310 t311 t312 t315 t316 t318 t319) else (some false))) else (some false)) else (laws_FnRestLattice.l0 k4 l0 t320 (wrap64 (x10_4 + 1)) t309 t310 t311 t312 t315 t316 t318 t319))) else (laws_FnRestLattice.l0 k4 l0 t320 (wrap64 (x10_4 + 1)) t309 t310 t311 t312 t315 t316 t318 t319)) = some r := H
                                have A149 := Aside0.mk A1490
                                clear A1490
                                by_cases c150 : t336 = true
                                · subst c150
                                  have H1 : ((spec_RestHas.f k4 t311 t312 t333).bind fun t337 => (if t337 = true then (if t320 = true then ((impl_RestHas.f k4 t318 t319 t333).bind fun t338 => (if t338 = true then (laws_FnRestLattice.l0 k4 l0 t320 (wrap64 (x10_4 + 1)) t309 t310 t311 t312 t315 t316 t318 t319) else (some false))) else (some false)) else (laws_FnRestLattice.l0 k4 l0 t320 (wrap64 (x10_4 + 1)) t309 t310 t311 t312 t315 t316 t318 t319))) = some r := by rw [if_pos rfl] at H; exact H
                                  clear H
                                  have H := H1
                                  clear H1
                                  replace H := Option.bind_eq_some_iff.mp H
                                  obtain ⟨t337, A1510, H⟩ := H
                                  replace H : (if t337 = true then (if t320 = true then ((impl_RestHas.f k4 t318 t319 t333).bind fun t338 => (if t338 = true then (laws_FnRestLattice.l0 k4 l0 t320 (wrap64 (x10_4 + 1)) t309 t310 t311 t312 t315 t316 t318 t319) else (some false))) else (some false)) else (laws_FnRestLattice.l0 k4 l0 t320 (wrap64 (x10_4 + 1)) t309 t310 t311 t312 t315 t316 t318 t319)) = some r := H
                                  have A151 := Aside0.mk A1510
                                  clear A1510
                                  by_cases c152 : t337 = true
                                  · subst c152
                                    have H1 : (if t320 = true then ((impl_RestHas.f k4 t318 t319 t333).bind fun t338 => (if t338 = true then (laws_FnRestLattice.l0 k4 l0 t320 (wrap64 (x10_4 + 1)) t309 t310 t311 t312 t315 t316 t318 t319) else (some false))) else (some false)) = some r := by rw [if_pos rfl] at H; exact H
                                    clear H
                                    have H := H1
                                    clear H1
                                    by_cases c153 : t320 = true
                                    · subst c153
                                      have H1 : ((impl_RestHas.f k4 t318 t319 t333).bind fun t338 => (if t338 = true then (laws_FnRestLattice.l0 k4 l0 true (wrap64 (x10_4 + 1)) t309 t310 t311 t312 t315 t316 t318 t319) else (some false))) = some r := by rw [if_pos rfl] at H; exact H
                                      clear H
                                      have H := H1
                                      clear H1
                                      replace H := Option.bind_eq_some_iff.mp H
                                      obtain ⟨t338, A1540, H⟩ := H
                                      replace H : (if t338 = true then (laws_FnRestLattice.l0 k4 l0 true (wrap64 (x10_4 + 1)) t309 t310 t311 t312 t315 t316 t318 t319) else (some false)) = some r := H
                                      have A154 := Aside0.mk A1540
                                      clear A1540
                                      by_cases c155 : t338 = true
                                      · subst c155
                                        have H1 : (laws_FnRestLattice.l0 k4 l0 true (wrap64 (x10_4 + 1)) t309 t310 t311 t312 t315 t316 t318 t319) = some r := by rw [if_pos rfl] at H; exact H
                                        clear H
                                        have H := H1
                                        clear H1
                                        have H' := Aside0.mk H
                                        clear H
                                        have hnb156 := NB313_314.out
                                        have hnc156 := NB314_313.out
                                        have hnb157 := NB313_317.out
                                        have hnc157 := NB317_313.out
                                        have hnb158 := NB313_321.out
                                        have hnc158 := NB321_313.out
                                        have hnb159 := NB313_325.out
                                        have hnc159 := NB325_313.out
                                        obtain ⟨hcz160_0, hcz160_1, hfz160_0, hfz160_1⟩ := sqc2 BK313
                                        go_wp2_with (first | ((with_reducible refine gate_callee (f := 62) rfl ?_); refine sqL (some 90) Try.func62 #[.agg #[.int .i64 t309, .int .i64 t310], .slice A0 l0.length c0, .int .i64 x10_4] ?_; (with_reducible refine (laws_ofRest.calls k4 t309 t310 _ _ l0 x10_4 t333 _ ?side1 ?side2 A144.out).mono ?_); (case side1 => repeat (first | exact (Kd.C_below HR0.out HB.out) | (with_reducible refine Kd.C_alloc ?_ _) | (with_reducible refine Kd.C_drewN ?_ _) | (with_reducible refine Kd.C_drew ?_))); (case side2 => exact HC0.out); rintro e w161 ⟨rfl, hb⟩; refine ⟨_, rfl, ?_⟩; replace BK313 := sqb BK313 hb; replace BK314 := sqb BK314 hb; replace BK317 := sqb BK317 hb; replace BK321 := sqb BK321 hb; replace BK325 := sqb BK325 hb; replace HB := sqs HB hb; (try clear hb); obtain ⟨hcz162_0, hcz162_1, hfz162_0, hfz162_1⟩ := sqc2 BK313) | ((with_reducible refine gate_callee (f := 63) rfl ?_); refine sqL (some 93) Try.func63 #[.agg #[.int .i64 t309, .int .i64 t310], .int .i64 t333] ?_; (with_reducible refine (spec_RestHas.calls k4 t309 t310 t333 true _ A145.out).mono ?_); rintro e w163 ⟨rfl, hb⟩; refine ⟨_, rfl, ?_⟩; replace BK313 := sqb BK313 hb; replace BK314 := sqb BK314 hb; replace BK317 := sqb BK317 hb; replace BK321 := sqb BK321 hb; replace BK325 := sqb BK325 hb; replace HB := sqs HB hb; (try clear hb); have hnb164 := NB317_314.out; have hnc164 := NB314_317.out; have hnb165 := NB317_321.out; have hnc165 := NB321_317.out; have hnb166 := NB317_325.out; have hnc166 := NB325_317.out; obtain ⟨hcz167_0, hcz167_1, hfz167_0, hfz167_1⟩ := sqc2 BK317) | (go_at_call 64; (with_reducible refine (impl_RestHas.calls k4 t315 t316 t333 true _ A147.out).mono ?_); rintro e w168 ⟨rfl, hb⟩; replace BK313 := sqb BK313 hb; replace BK314 := sqb BK314 hb; replace BK317 := sqb BK317 hb; replace BK321 := sqb BK321 hb; replace BK325 := sqb BK325 hb; replace HB := sqs HB hb; (try clear hb); obtain ⟨hcz169_0, hcz169_1, hfz169_0, hfz169_1⟩ := sqc2 BK313) | (go_at_call 63; (with_reducible refine (spec_RestHas.calls k4 t309 t310 t333 true _ A149.out).mono ?_); rintro e w170 ⟨rfl, hb⟩; replace BK313 := sqb BK313 hb; replace BK314 := sqb BK314 hb; replace BK317 := sqb BK317 hb; replace BK321 := sqb BK321 hb; replace BK325 := sqb BK325 hb; replace HB := sqs HB hb; (try clear hb); have hnb171 := NB314_321.out; have hnc171 := NB321_314.out; have hnb172 := NB314_325.out; have hnc172 := NB325_314.out; obtain ⟨hcz173_0, hcz173_1, hfz173_0, hfz173_1⟩ := sqc2 BK314) | (go_at_call 63; (with_reducible refine (spec_RestHas.calls k4 t311 t312 t333 true _ A151.out).mono ?_); rintro e w174 ⟨rfl, hb⟩; replace BK313 := sqb BK313 hb; replace BK314 := sqb BK314 hb; replace BK317 := sqb BK317 hb; replace BK321 := sqb BK321 hb; replace BK325 := sqb BK325 hb; replace HB := sqs HB hb; (try clear hb); have hnb175 := NB321_325.out; have hnc175 := NB325_321.out; obtain ⟨hcz176_0, hcz176_1, hfz176_0, hfz176_1⟩ := sqc2 BK321) | (go_at_call 64; (with_reducible refine (impl_RestHas.calls k4 t318 t319 t333 true _ A154.out).mono ?_); rintro e w177 ⟨rfl, hb⟩; replace BK313 := sqb BK313 hb; replace BK314 := sqb BK314 hb; replace BK317 := sqb BK317 hb; replace BK321 := sqb BK321 hb; replace BK325 := sqb BK325 hb; replace HB := sqs HB hb; (try clear hb)))
                                        go_roundg k4
                                        case measure => have := HJ6.out; have := HJ48.out; have := HJ76.out; have := HK4.out; omega
                                        case rel => exact ⟨(wrap64 (x10_4 + 1)), (by first | rfl | (simp; done) | (simp [*]; done)), H', ⟨by have := HJ6.out; have := HJ48.out; have := HJ76.out; have := HK4.out; omega⟩, sqk BK313, sqk BK314, sqk BK317, sqk BK321, sqk BK325, sqh HB⟩
                                      · replace c155 := Bool.eq_false_iff.mpr c155
                                        subst c155
                                        have H1 : (some false) = some r := by rw [if_neg (show ¬ (false = true) by decide)] at H; exact H
                                        clear H
                                        have H := H1
                                        clear H1
                                        obtain rfl := Option.some.inj H
                                        have hnb178 := NB313_314.out
                                        have hnc178 := NB314_313.out
                                        have hnb179 := NB313_317.out
                                        have hnc179 := NB317_313.out
                                        have hnb180 := NB313_321.out
                                        have hnc180 := NB321_313.out
                                        have hnb181 := NB313_325.out
                                        have hnc181 := NB325_313.out
                                        obtain ⟨hcz182_0, hcz182_1, hfz182_0, hfz182_1⟩ := sqc2 BK313
                                        go_wp2_with (first | ((with_reducible refine gate_callee (f := 62) rfl ?_); refine sqL (some 90) Try.func62 #[.agg #[.int .i64 t309, .int .i64 t310], .slice A0 l0.length c0, .int .i64 x10_4] ?_; (with_reducible refine (laws_ofRest.calls k4 t309 t310 _ _ l0 x10_4 t333 _ ?side1 ?side2 A144.out).mono ?_); (case side1 => repeat (first | exact (Kd.C_below HR0.out HB.out) | (with_reducible refine Kd.C_alloc ?_ _) | (with_reducible refine Kd.C_drewN ?_ _) | (with_reducible refine Kd.C_drew ?_))); (case side2 => exact HC0.out); rintro e w183 ⟨rfl, hb⟩; refine ⟨_, rfl, ?_⟩; replace BK313 := sqb BK313 hb; replace BK314 := sqb BK314 hb; replace BK317 := sqb BK317 hb; replace BK321 := sqb BK321 hb; replace BK325 := sqb BK325 hb; replace HB := sqs HB hb; (try clear hb); obtain ⟨hcz184_0, hcz184_1, hfz184_0, hfz184_1⟩ := sqc2 BK313) | ((with_reducible refine gate_callee (f := 63) rfl ?_); refine sqL (some 93) Try.func63 #[.agg #[.int .i64 t309, .int .i64 t310], .int .i64 t333] ?_; (with_reducible refine (spec_RestHas.calls k4 t309 t310 t333 true _ A145.out).mono ?_); rintro e w185 ⟨rfl, hb⟩; refine ⟨_, rfl, ?_⟩; replace BK313 := sqb BK313 hb; replace BK314 := sqb BK314 hb; replace BK317 := sqb BK317 hb; replace BK321 := sqb BK321 hb; replace BK325 := sqb BK325 hb; replace HB := sqs HB hb; (try clear hb); have hnb186 := NB317_314.out; have hnc186 := NB314_317.out; have hnb187 := NB317_321.out; have hnc187 := NB321_317.out; have hnb188 := NB317_325.out; have hnc188 := NB325_317.out; obtain ⟨hcz189_0, hcz189_1, hfz189_0, hfz189_1⟩ := sqc2 BK317) | (go_at_call 64; (with_reducible refine (impl_RestHas.calls k4 t315 t316 t333 true _ A147.out).mono ?_); rintro e w190 ⟨rfl, hb⟩; replace BK313 := sqb BK313 hb; replace BK314 := sqb BK314 hb; replace BK317 := sqb BK317 hb; replace BK321 := sqb BK321 hb; replace BK325 := sqb BK325 hb; replace HB := sqs HB hb; (try clear hb); obtain ⟨hcz191_0, hcz191_1, hfz191_0, hfz191_1⟩ := sqc2 BK313) | (go_at_call 63; (with_reducible refine (spec_RestHas.calls k4 t309 t310 t333 true _ A149.out).mono ?_); rintro e w192 ⟨rfl, hb⟩; replace BK313 := sqb BK313 hb; replace BK314 := sqb BK314 hb; replace BK317 := sqb BK317 hb; replace BK321 := sqb BK321 hb; replace BK325 := sqb BK325 hb; replace HB := sqs HB hb; (try clear hb); have hnb193 := NB314_321.out; have hnc193 := NB321_314.out; have hnb194 := NB314_325.out; have hnc194 := NB325_314.out; obtain ⟨hcz195_0, hcz195_1, hfz195_0, hfz195_1⟩ := sqc2 BK314) | (go_at_call 63; (with_reducible refine (spec_RestHas.calls k4 t311 t312 t333 true _ A151.out).mono ?_); rintro e w196 ⟨rfl, hb⟩; replace BK313 := sqb BK313 hb; replace BK314 := sqb BK314 hb; replace BK317 := sqb BK317 hb; replace BK321 := sqb BK321 hb; replace BK325 := sqb BK325 hb; replace HB := sqs HB hb; (try clear hb); have hnb197 := NB321_325.out; have hnc197 := NB325_321.out; obtain ⟨hcz198_0, hcz198_1, hfz198_0, hfz198_1⟩ := sqc2 BK321) | (go_at_call 64; (with_reducible refine (impl_RestHas.calls k4 t318 t319 t333 false _ A154.out).mono ?_); rintro e w199 ⟨rfl, hb⟩; replace BK313 := sqb BK313 hb; replace BK314 := sqb BK314 hb; replace BK317 := sqb BK317 hb; replace BK321 := sqb BK321 hb; replace BK325 := sqb BK325 hb; replace HB := sqs HB hb; (try clear hb)))
                                        go_ret
                                        exact sqe HB
                                    · replace c153 := Bool.eq_false_iff.mpr c153
                                      subst c153
                                      have H1 : (some false) = some r := by rw [if_neg (show ¬ (false = true) by decide)] at H; exact H
                                      clear H
                                      have H := H1
                                      clear H1
                                      obtain rfl := Option.some.inj H
                                      have hnb200 := NB313_314.out
                                      have hnc200 := NB314_313.out
                                      have hnb201 := NB313_317.out
                                      have hnc201 := NB317_313.out
                                      have hnb202 := NB313_321.out
                                      have hnc202 := NB321_313.out
                                      have hnb203 := NB313_325.out
                                      have hnc203 := NB325_313.out
                                      obtain ⟨hcz204_0, hcz204_1, hfz204_0, hfz204_1⟩ := sqc2 BK313
                                      go_wp2_with (first | ((with_reducible refine gate_callee (f := 62) rfl ?_); refine sqL (some 90) Try.func62 #[.agg #[.int .i64 t309, .int .i64 t310], .slice A0 l0.length c0, .int .i64 x10_4] ?_; (with_reducible refine (laws_ofRest.calls k4 t309 t310 _ _ l0 x10_4 t333 _ ?side1 ?side2 A144.out).mono ?_); (case side1 => repeat (first | exact (Kd.C_below HR0.out HB.out) | (with_reducible refine Kd.C_alloc ?_ _) | (with_reducible refine Kd.C_drewN ?_ _) | (with_reducible refine Kd.C_drew ?_))); (case side2 => exact HC0.out); rintro e w205 ⟨rfl, hb⟩; refine ⟨_, rfl, ?_⟩; replace BK313 := sqb BK313 hb; replace BK314 := sqb BK314 hb; replace BK317 := sqb BK317 hb; replace BK321 := sqb BK321 hb; replace BK325 := sqb BK325 hb; replace HB := sqs HB hb; (try clear hb); obtain ⟨hcz206_0, hcz206_1, hfz206_0, hfz206_1⟩ := sqc2 BK313) | ((with_reducible refine gate_callee (f := 63) rfl ?_); refine sqL (some 93) Try.func63 #[.agg #[.int .i64 t309, .int .i64 t310], .int .i64 t333] ?_; (with_reducible refine (spec_RestHas.calls k4 t309 t310 t333 true _ A145.out).mono ?_); rintro e w207 ⟨rfl, hb⟩; refine ⟨_, rfl, ?_⟩; replace BK313 := sqb BK313 hb; replace BK314 := sqb BK314 hb; replace BK317 := sqb BK317 hb; replace BK321 := sqb BK321 hb; replace BK325 := sqb BK325 hb; replace HB := sqs HB hb; (try clear hb); have hnb208 := NB317_314.out; have hnc208 := NB314_317.out; have hnb209 := NB317_321.out; have hnc209 := NB321_317.out; have hnb210 := NB317_325.out; have hnc210 := NB325_317.out; obtain ⟨hcz211_0, hcz211_1, hfz211_0, hfz211_1⟩ := sqc2 BK317) | (go_at_call 64; (with_reducible refine (impl_RestHas.calls k4 t315 t316 t333 true _ A147.out).mono ?_); rintro e w212 ⟨rfl, hb⟩; replace BK313 := sqb BK313 hb; replace BK314 := sqb BK314 hb; replace BK317 := sqb BK317 hb; replace BK321 := sqb BK321 hb; replace BK325 := sqb BK325 hb; replace HB := sqs HB hb; (try clear hb); obtain ⟨hcz213_0, hcz213_1, hfz213_0, hfz213_1⟩ := sqc2 BK313) | (go_at_call 63; (with_reducible refine (spec_RestHas.calls k4 t309 t310 t333 true _ A149.out).mono ?_); rintro e w214 ⟨rfl, hb⟩; replace BK313 := sqb BK313 hb; replace BK314 := sqb BK314 hb; replace BK317 := sqb BK317 hb; replace BK321 := sqb BK321 hb; replace BK325 := sqb BK325 hb; replace HB := sqs HB hb; (try clear hb); have hnb215 := NB314_321.out; have hnc215 := NB321_314.out; have hnb216 := NB314_325.out; have hnc216 := NB325_314.out; obtain ⟨hcz217_0, hcz217_1, hfz217_0, hfz217_1⟩ := sqc2 BK314) | (go_at_call 63; (with_reducible refine (spec_RestHas.calls k4 t311 t312 t333 true _ A151.out).mono ?_); rintro e w218 ⟨rfl, hb⟩; replace BK313 := sqb BK313 hb; replace BK314 := sqb BK314 hb; replace BK317 := sqb BK317 hb; replace BK321 := sqb BK321 hb; replace BK325 := sqb BK325 hb; replace HB := sqs HB hb; (try clear hb)))
                                      go_ret
                                      exact sqe HB
                                  · replace c152 := Bool.eq_false_iff.mpr c152
                                    subst c152
                                    have H1 : (laws_FnRestLattice.l0 k4 l0 t320 (wrap64 (x10_4 + 1)) t309 t310 t311 t312 t315 t316 t318 t319) = some r := by rw [if_neg (show ¬ (false = true) by decide)] at H; exact H
                                    clear H
                                    have H := H1
                                    clear H1
                                    have H' := Aside0.mk H
                                    clear H
                                    have hnb219 := NB313_314.out
                                    have hnc219 := NB314_313.out
                                    have hnb220 := NB313_317.out
                                    have hnc220 := NB317_313.out
                                    have hnb221 := NB313_321.out
                                    have hnc221 := NB321_313.out
                                    have hnb222 := NB313_325.out
                                    have hnc222 := NB325_313.out
                                    obtain ⟨hcz223_0, hcz223_1, hfz223_0, hfz223_1⟩ := sqc2 BK313
                                    go_wp2_with (first | ((with_reducible refine gate_callee (f := 62) rfl ?_); refine sqL (some 90) Try.func62 #[.agg #[.int .i64 t309, .int .i64 t310], .slice A0 l0.length c0, .int .i64 x10_4] ?_; (with_reducible refine (laws_ofRest.calls k4 t309 t310 _ _ l0 x10_4 t333 _ ?side1 ?side2 A144.out).mono ?_); (case side1 => repeat (first | exact (Kd.C_below HR0.out HB.out) | (with_reducible refine Kd.C_alloc ?_ _) | (with_reducible refine Kd.C_drewN ?_ _) | (with_reducible refine Kd.C_drew ?_))); (case side2 => exact HC0.out); rintro e w224 ⟨rfl, hb⟩; refine ⟨_, rfl, ?_⟩; replace BK313 := sqb BK313 hb; replace BK314 := sqb BK314 hb; replace BK317 := sqb BK317 hb; replace BK321 := sqb BK321 hb; replace BK325 := sqb BK325 hb; replace HB := sqs HB hb; (try clear hb); obtain ⟨hcz225_0, hcz225_1, hfz225_0, hfz225_1⟩ := sqc2 BK313) | ((with_reducible refine gate_callee (f := 63) rfl ?_); refine sqL (some 93) Try.func63 #[.agg #[.int .i64 t309, .int .i64 t310], .int .i64 t333] ?_; (with_reducible refine (spec_RestHas.calls k4 t309 t310 t333 true _ A145.out).mono ?_); rintro e w226 ⟨rfl, hb⟩; refine ⟨_, rfl, ?_⟩; replace BK313 := sqb BK313 hb; replace BK314 := sqb BK314 hb; replace BK317 := sqb BK317 hb; replace BK321 := sqb BK321 hb; replace BK325 := sqb BK325 hb; replace HB := sqs HB hb; (try clear hb); have hnb227 := NB317_314.out; have hnc227 := NB314_317.out; have hnb228 := NB317_321.out; have hnc228 := NB321_317.out; have hnb229 := NB317_325.out; have hnc229 := NB325_317.out; obtain ⟨hcz230_0, hcz230_1, hfz230_0, hfz230_1⟩ := sqc2 BK317) | (go_at_call 64; (with_reducible refine (impl_RestHas.calls k4 t315 t316 t333 true _ A147.out).mono ?_); rintro e w231 ⟨rfl, hb⟩; replace BK313 := sqb BK313 hb; replace BK314 := sqb BK314 hb; replace BK317 := sqb BK317 hb; replace BK321 := sqb BK321 hb; replace BK325 := sqb BK325 hb; replace HB := sqs HB hb; (try clear hb); obtain ⟨hcz232_0, hcz232_1, hfz232_0, hfz232_1⟩ := sqc2 BK313) | (go_at_call 63; (with_reducible refine (spec_RestHas.calls k4 t309 t310 t333 true _ A149.out).mono ?_); rintro e w233 ⟨rfl, hb⟩; replace BK313 := sqb BK313 hb; replace BK314 := sqb BK314 hb; replace BK317 := sqb BK317 hb; replace BK321 := sqb BK321 hb; replace BK325 := sqb BK325 hb; replace HB := sqs HB hb; (try clear hb); have hnb234 := NB314_321.out; have hnc234 := NB321_314.out; have hnb235 := NB314_325.out; have hnc235 := NB325_314.out; obtain ⟨hcz236_0, hcz236_1, hfz236_0, hfz236_1⟩ := sqc2 BK314) | (go_at_call 63; (with_reducible refine (spec_RestHas.calls k4 t311 t312 t333 false _ A151.out).mono ?_); rintro e w237 ⟨rfl, hb⟩; replace BK313 := sqb BK313 hb; replace BK314 := sqb BK314 hb; replace BK317 := sqb BK317 hb; replace BK321 := sqb BK321 hb; replace BK325 := sqb BK325 hb; replace HB := sqs HB hb; (try clear hb)))
                                    go_roundg k4
                                    case measure => have := HJ6.out; have := HJ48.out; have := HJ76.out; have := HK4.out; omega
                                    case rel => exact ⟨(wrap64 (x10_4 + 1)), (by first | rfl | (simp; done) | (simp [*]; done)), H', ⟨by have := HJ6.out; have := HJ48.out; have := HJ76.out; have := HK4.out; omega⟩, sqk BK313, sqk BK314, sqk BK317, sqk BK321, sqk BK325, sqh HB⟩
                                · replace c150 := Bool.eq_false_iff.mpr c150
                                  subst c150
                                  have H1 : (laws_FnRestLattice.l0 k4 l0 t320 (wrap64 (x10_4 + 1)) t309 t310 t311 t312 t315 t316 t318 t319) = some r := by rw [if_neg (show ¬ (false = true) by decide)] at H; exact H
                                  clear H
                                  have H := H1
                                  clear H1
                                  have H' := Aside0.mk H
                                  clear H
                                  have hnb238 := NB313_314.out
                                  have hnc238 := NB314_313.out
                                  have hnb239 := NB313_317.out
                                  have hnc239 := NB317_313.out
                                  have hnb240 := NB313_321.out
                                  have hnc240 := NB321_313.out
                                  have hnb241 := NB313_325.out
                                  have hnc241 := NB325_313.out
                                  obtain ⟨hcz242_0, hcz242_1, hfz242_0, hfz242_1⟩ := sqc2 BK313
                                  go_wp2_with (first | ((with_reducible refine gate_callee (f := 62) rfl ?_); refine sqL (some 90) Try.func62 #[.agg #[.int .i64 t309, .int .i64 t310], .slice A0 l0.length c0, .int .i64 x10_4] ?_; (with_reducible refine (laws_ofRest.calls k4 t309 t310 _ _ l0 x10_4 t333 _ ?side1 ?side2 A144.out).mono ?_); (case side1 => repeat (first | exact (Kd.C_below HR0.out HB.out) | (with_reducible refine Kd.C_alloc ?_ _) | (with_reducible refine Kd.C_drewN ?_ _) | (with_reducible refine Kd.C_drew ?_))); (case side2 => exact HC0.out); rintro e w243 ⟨rfl, hb⟩; refine ⟨_, rfl, ?_⟩; replace BK313 := sqb BK313 hb; replace BK314 := sqb BK314 hb; replace BK317 := sqb BK317 hb; replace BK321 := sqb BK321 hb; replace BK325 := sqb BK325 hb; replace HB := sqs HB hb; (try clear hb); obtain ⟨hcz244_0, hcz244_1, hfz244_0, hfz244_1⟩ := sqc2 BK313) | ((with_reducible refine gate_callee (f := 63) rfl ?_); refine sqL (some 93) Try.func63 #[.agg #[.int .i64 t309, .int .i64 t310], .int .i64 t333] ?_; (with_reducible refine (spec_RestHas.calls k4 t309 t310 t333 true _ A145.out).mono ?_); rintro e w245 ⟨rfl, hb⟩; refine ⟨_, rfl, ?_⟩; replace BK313 := sqb BK313 hb; replace BK314 := sqb BK314 hb; replace BK317 := sqb BK317 hb; replace BK321 := sqb BK321 hb; replace BK325 := sqb BK325 hb; replace HB := sqs HB hb; (try clear hb); have hnb246 := NB317_314.out; have hnc246 := NB314_317.out; have hnb247 := NB317_321.out; have hnc247 := NB321_317.out; have hnb248 := NB317_325.out; have hnc248 := NB325_317.out; obtain ⟨hcz249_0, hcz249_1, hfz249_0, hfz249_1⟩ := sqc2 BK317) | (go_at_call 64; (with_reducible refine (impl_RestHas.calls k4 t315 t316 t333 true _ A147.out).mono ?_); rintro e w250 ⟨rfl, hb⟩; replace BK313 := sqb BK313 hb; replace BK314 := sqb BK314 hb; replace BK317 := sqb BK317 hb; replace BK321 := sqb BK321 hb; replace BK325 := sqb BK325 hb; replace HB := sqs HB hb; (try clear hb); obtain ⟨hcz251_0, hcz251_1, hfz251_0, hfz251_1⟩ := sqc2 BK313) | (go_at_call 63; (with_reducible refine (spec_RestHas.calls k4 t309 t310 t333 false _ A149.out).mono ?_); rintro e w252 ⟨rfl, hb⟩; replace BK313 := sqb BK313 hb; replace BK314 := sqb BK314 hb; replace BK317 := sqb BK317 hb; replace BK321 := sqb BK321 hb; replace BK325 := sqb BK325 hb; replace HB := sqs HB hb; (try clear hb)))
                                  go_roundg k4
                                  case measure => have := HJ6.out; have := HJ48.out; have := HJ76.out; have := HK4.out; omega
                                  case rel => exact ⟨(wrap64 (x10_4 + 1)), (by first | rfl | (simp; done) | (simp [*]; done)), H', ⟨by have := HJ6.out; have := HJ48.out; have := HJ76.out; have := HK4.out; omega⟩, sqk BK313, sqk BK314, sqk BK317, sqk BK321, sqk BK325, sqh HB⟩
                              · replace c148 := Bool.eq_false_iff.mpr c148
                                subst c148
                                have H1 : (some false) = some r := by rw [if_neg (show ¬ (false = true) by decide)] at H; exact H
                                clear H
                                have H := H1
                                clear H1
                                obtain rfl := Option.some.inj H
                                have hnb253 := NB313_314.out
                                have hnc253 := NB314_313.out
                                have hnb254 := NB313_317.out
                                have hnc254 := NB317_313.out
                                have hnb255 := NB313_321.out
                                have hnc255 := NB321_313.out
                                have hnb256 := NB313_325.out
                                have hnc256 := NB325_313.out
                                obtain ⟨hcz257_0, hcz257_1, hfz257_0, hfz257_1⟩ := sqc2 BK313
                                go_wp2_with (first | ((with_reducible refine gate_callee (f := 62) rfl ?_); refine sqL (some 90) Try.func62 #[.agg #[.int .i64 t309, .int .i64 t310], .slice A0 l0.length c0, .int .i64 x10_4] ?_; (with_reducible refine (laws_ofRest.calls k4 t309 t310 _ _ l0 x10_4 t333 _ ?side1 ?side2 A144.out).mono ?_); (case side1 => repeat (first | exact (Kd.C_below HR0.out HB.out) | (with_reducible refine Kd.C_alloc ?_ _) | (with_reducible refine Kd.C_drewN ?_ _) | (with_reducible refine Kd.C_drew ?_))); (case side2 => exact HC0.out); rintro e w258 ⟨rfl, hb⟩; refine ⟨_, rfl, ?_⟩; replace BK313 := sqb BK313 hb; replace BK314 := sqb BK314 hb; replace BK317 := sqb BK317 hb; replace BK321 := sqb BK321 hb; replace BK325 := sqb BK325 hb; replace HB := sqs HB hb; (try clear hb); obtain ⟨hcz259_0, hcz259_1, hfz259_0, hfz259_1⟩ := sqc2 BK313) | ((with_reducible refine gate_callee (f := 63) rfl ?_); refine sqL (some 93) Try.func63 #[.agg #[.int .i64 t309, .int .i64 t310], .int .i64 t333] ?_; (with_reducible refine (spec_RestHas.calls k4 t309 t310 t333 true _ A145.out).mono ?_); rintro e w260 ⟨rfl, hb⟩; refine ⟨_, rfl, ?_⟩; replace BK313 := sqb BK313 hb; replace BK314 := sqb BK314 hb; replace BK317 := sqb BK317 hb; replace BK321 := sqb BK321 hb; replace BK325 := sqb BK325 hb; replace HB := sqs HB hb; (try clear hb); have hnb261 := NB317_314.out; have hnc261 := NB314_317.out; have hnb262 := NB317_321.out; have hnc262 := NB321_317.out; have hnb263 := NB317_325.out; have hnc263 := NB325_317.out; obtain ⟨hcz264_0, hcz264_1, hfz264_0, hfz264_1⟩ := sqc2 BK317) | (go_at_call 64; (with_reducible refine (impl_RestHas.calls k4 t315 t316 t333 false _ A147.out).mono ?_); rintro e w265 ⟨rfl, hb⟩; replace BK313 := sqb BK313 hb; replace BK314 := sqb BK314 hb; replace BK317 := sqb BK317 hb; replace BK321 := sqb BK321 hb; replace BK325 := sqb BK325 hb; replace HB := sqs HB hb; (try clear hb)))
                                go_ret
                                exact sqe HB
                            · replace c146 := Bool.eq_false_iff.mpr c146
                              subst c146
                              have H1 : ((spec_RestHas.f k4 t309 t310 t333).bind fun t339 => (if t339 = true then ((spec_RestHas.f k4 t311 t312 t333).bind fun t340 => (if t340 = true then (if t320 = true then ((impl_RestHas.f k4 t318 t319 t333).bind fun t341 => (if t341 = true then (laws_FnRestLattice.l0 k4 l0 t320 (wrap64 (x10_4 + 1)) t309 t310 t311 t312 t315 t316 t318 t319) else (some false))) else (some false)) else (laws_FnRestLattice.l0 k4 l0 t320 (wrap64 (x10_4 + 1)) t309 t310 t311 t312 t315 t316 t318 t319))) else (laws_FnRestLattice.l0 k4 l0 t320 (wrap64 (x10_4 + 1)) t309 t310 t311 t312 t315 t316 t318 t319))) = some r := by rw [if_neg (show ¬ (false = true) by decide)] at H; exact H
                              clear H
                              have H := H1
                              clear H1
                              replace H := Option.bind_eq_some_iff.mp H
                              obtain ⟨t339, A2660, H⟩ := H
                              replace H : (if t339 = true then ((spec_RestHas.f k4 t311 t312 t333).bind fun t340 => (if t340 = true then (if t320 = true then ((impl_RestHas.f k4 t318 t319 t333).bind fun t341 => (if t341 = true then (laws_FnRestLattice.l0 k4 l0 t320 (wrap64 (x10_4 + 1)) t309 t310 t311 t312 t315 t316 t318 t319) else (some false))) else (some false)) else (laws_FnRestLattice.l0 k4 l0 t320 (wrap64 (x10_4 + 1)) t309 t310 t311 t312 t315 t316 t318 t319))) else (laws_FnRestLattice.l0 k4 l0 t320 (wrap64 (x10_4 + 1)) t309 t310 t311 t312 t315 t316 t318 t319)) = some r := H
                              have A266 := Aside0.mk A2660
                              clear A2660
                              by_cases c267 : t339 = true
                              · subst c267
                                have H1 : ((spec_RestHas.f k4 t311 t312 t333).bind fun t340 => (if t340 = true then (if t320 = true then ((impl_RestHas.f k4 t318 t319 t333).bind fun t341 => (if t341 = true then (laws_FnRestLattice.l0 k4 l0 t320 (wrap64 (x10_4 + 1)) t309 t310 t311 t312 t315 t316 t318 t319) else (some false))) else (some false)) else (laws_FnRestLattice.l0 k4 l0 t320 (wrap64 (x10_4 + 1)) t309 t310 t311 t312 t315 t316 t318 t319))) = some r := by rw [if_pos rfl] at H; exact H
                                clear H
                                have H := H1
                                clear H1
                                replace H := Option.bind_eq_some_iff.mp H
                                obtain ⟨t340, A2680, H⟩ := H
                                replace H : (if t340 = true then (if t320 = true then ((impl_RestHas.f k4 t318 t319 t333).bind fun t341 => (if t341 = true then (laws_FnRestLattice.l0 k4 l0 t320 (wrap64 (x10_4 + 1)) t309 t310 t311 t312 t315 t316 t318 t319) else (some false))) else (some false)) else (laws_FnRestLattice.l0 k4 l0 t320 (wrap64 (x10_4 + 1)) t309 t310 t311 t312 t315 t316 t318 t319)) = some r := H
                                have A268 := Aside0.mk A2680
                                clear A2680
                                by_cases c269 : t340 = true
                                · subst c269
                                  have H1 : (if t320 = true then ((impl_RestHas.f k4 t318 t319 t333).bind fun t341 => (if t341 = true then (laws_FnRestLattice.l0 k4 l0 t320 (wrap64 (x10_4 + 1)) t309 t310 t311 t312 t315 t316 t318 t319) else (some false))) else (some false)) = some r := by rw [if_pos rfl] at H; exact H
                                  clear H
                                  have H := H1
                                  clear H1
                                  by_cases c270 : t320 = true
                                  · subst c270
                                    have H1 : ((impl_RestHas.f k4 t318 t319 t333).bind fun t341 => (if t341 = true then (laws_FnRestLattice.l0 k4 l0 true (wrap64 (x10_4 + 1)) t309 t310 t311 t312 t315 t316 t318 t319) else (some false))) = some r := by rw [if_pos rfl] at H; exact H
                                    clear H
                                    have H := H1
                                    clear H1
                                    replace H := Option.bind_eq_some_iff.mp H
                                    obtain ⟨t341, A2710, H⟩ := H
                                    replace H : (if t341 = true then (laws_FnRestLattice.l0 k4 l0 true (wrap64 (x10_4 + 1)) t309 t310 t311 t312 t315 t316 t318 t319) else (some false)) = some r := H
                                    have A271 := Aside0.mk A2710
                                    clear A2710
                                    by_cases c272 : t341 = true
                                    · subst c272
                                      have H1 : (laws_FnRestLattice.l0 k4 l0 true (wrap64 (x10_4 + 1)) t309 t310 t311 t312 t315 t316 t318 t319) = some r := by rw [if_pos rfl] at H; exact H
                                      clear H
                                      have H := H1
                                      clear H1
                                      have H' := Aside0.mk H
                                      clear H
                                      have hnb273 := NB313_314.out
                                      have hnc273 := NB314_313.out
                                      have hnb274 := NB313_317.out
                                      have hnc274 := NB317_313.out
                                      have hnb275 := NB313_321.out
                                      have hnc275 := NB321_313.out
                                      have hnb276 := NB313_325.out
                                      have hnc276 := NB325_313.out
                                      obtain ⟨hcz277_0, hcz277_1, hfz277_0, hfz277_1⟩ := sqc2 BK313
                                      go_wp2_with (first | ((with_reducible refine gate_callee (f := 62) rfl ?_); refine sqL (some 90) Try.func62 #[.agg #[.int .i64 t309, .int .i64 t310], .slice A0 l0.length c0, .int .i64 x10_4] ?_; (with_reducible refine (laws_ofRest.calls k4 t309 t310 _ _ l0 x10_4 t333 _ ?side1 ?side2 A144.out).mono ?_); (case side1 => repeat (first | exact (Kd.C_below HR0.out HB.out) | (with_reducible refine Kd.C_alloc ?_ _) | (with_reducible refine Kd.C_drewN ?_ _) | (with_reducible refine Kd.C_drew ?_))); (case side2 => exact HC0.out); rintro e w278 ⟨rfl, hb⟩; refine ⟨_, rfl, ?_⟩; replace BK313 := sqb BK313 hb; replace BK314 := sqb BK314 hb; replace BK317 := sqb BK317 hb; replace BK321 := sqb BK321 hb; replace BK325 := sqb BK325 hb; replace HB := sqs HB hb; (try clear hb); obtain ⟨hcz279_0, hcz279_1, hfz279_0, hfz279_1⟩ := sqc2 BK313) | ((with_reducible refine gate_callee (f := 63) rfl ?_); refine sqL (some 93) Try.func63 #[.agg #[.int .i64 t309, .int .i64 t310], .int .i64 t333] ?_; (with_reducible refine (spec_RestHas.calls k4 t309 t310 t333 false _ A145.out).mono ?_); rintro e w280 ⟨rfl, hb⟩; refine ⟨_, rfl, ?_⟩; replace BK313 := sqb BK313 hb; replace BK314 := sqb BK314 hb; replace BK317 := sqb BK317 hb; replace BK321 := sqb BK321 hb; replace BK325 := sqb BK325 hb; replace HB := sqs HB hb; (try clear hb); obtain ⟨hcz281_0, hcz281_1, hfz281_0, hfz281_1⟩ := sqc2 BK313) | (go_at_call 63; (with_reducible refine (spec_RestHas.calls k4 t309 t310 t333 true _ A266.out).mono ?_); rintro e w282 ⟨rfl, hb⟩; replace BK313 := sqb BK313 hb; replace BK314 := sqb BK314 hb; replace BK317 := sqb BK317 hb; replace BK321 := sqb BK321 hb; replace BK325 := sqb BK325 hb; replace HB := sqs HB hb; (try clear hb); have hnb283 := NB314_317.out; have hnc283 := NB317_314.out; have hnb284 := NB314_321.out; have hnc284 := NB321_314.out; have hnb285 := NB314_325.out; have hnc285 := NB325_314.out; obtain ⟨hcz286_0, hcz286_1, hfz286_0, hfz286_1⟩ := sqc2 BK314) | (go_at_call 63; (with_reducible refine (spec_RestHas.calls k4 t311 t312 t333 true _ A268.out).mono ?_); rintro e w287 ⟨rfl, hb⟩; replace BK313 := sqb BK313 hb; replace BK314 := sqb BK314 hb; replace BK317 := sqb BK317 hb; replace BK321 := sqb BK321 hb; replace BK325 := sqb BK325 hb; replace HB := sqs HB hb; (try clear hb); have hnb288 := NB321_317.out; have hnc288 := NB317_321.out; have hnb289 := NB321_325.out; have hnc289 := NB325_321.out; obtain ⟨hcz290_0, hcz290_1, hfz290_0, hfz290_1⟩ := sqc2 BK321) | (go_at_call 64; (with_reducible refine (impl_RestHas.calls k4 t318 t319 t333 true _ A271.out).mono ?_); rintro e w291 ⟨rfl, hb⟩; replace BK313 := sqb BK313 hb; replace BK314 := sqb BK314 hb; replace BK317 := sqb BK317 hb; replace BK321 := sqb BK321 hb; replace BK325 := sqb BK325 hb; replace HB := sqs HB hb; (try clear hb)))
                                      go_roundg k4
                                      case measure => have := HJ6.out; have := HJ48.out; have := HJ76.out; have := HK4.out; omega
                                      case rel => exact ⟨(wrap64 (x10_4 + 1)), (by first | rfl | (simp; done) | (simp [*]; done)), H', ⟨by have := HJ6.out; have := HJ48.out; have := HJ76.out; have := HK4.out; omega⟩, sqk BK313, sqk BK314, sqk BK317, sqk BK321, sqk BK325, sqh HB⟩
                                    · replace c272 := Bool.eq_false_iff.mpr c272
                                      subst c272
                                      have H1 : (some false) = some r := by rw [if_neg (show ¬ (false = true) by decide)] at H; exact H
                                      clear H
                                      have H := H1
                                      clear H1
                                      obtain rfl := Option.some.inj H
                                      have hnb292 := NB313_314.out
                                      have hnc292 := NB314_313.out
                                      have hnb293 := NB313_317.out
                                      have hnc293 := NB317_313.out
                                      have hnb294 := NB313_321.out
                                      have hnc294 := NB321_313.out
                                      have hnb295 := NB313_325.out
                                      have hnc295 := NB325_313.out
                                      obtain ⟨hcz296_0, hcz296_1, hfz296_0, hfz296_1⟩ := sqc2 BK313
                                      go_wp2_with (first | ((with_reducible refine gate_callee (f := 62) rfl ?_); refine sqL (some 90) Try.func62 #[.agg #[.int .i64 t309, .int .i64 t310], .slice A0 l0.length c0, .int .i64 x10_4] ?_; (with_reducible refine (laws_ofRest.calls k4 t309 t310 _ _ l0 x10_4 t333 _ ?side1 ?side2 A144.out).mono ?_); (case side1 => repeat (first | exact (Kd.C_below HR0.out HB.out) | (with_reducible refine Kd.C_alloc ?_ _) | (with_reducible refine Kd.C_drewN ?_ _) | (with_reducible refine Kd.C_drew ?_))); (case side2 => exact HC0.out); rintro e w297 ⟨rfl, hb⟩; refine ⟨_, rfl, ?_⟩; replace BK313 := sqb BK313 hb; replace BK314 := sqb BK314 hb; replace BK317 := sqb BK317 hb; replace BK321 := sqb BK321 hb; replace BK325 := sqb BK325 hb; replace HB := sqs HB hb; (try clear hb); obtain ⟨hcz298_0, hcz298_1, hfz298_0, hfz298_1⟩ := sqc2 BK313) | ((with_reducible refine gate_callee (f := 63) rfl ?_); refine sqL (some 93) Try.func63 #[.agg #[.int .i64 t309, .int .i64 t310], .int .i64 t333] ?_; (with_reducible refine (spec_RestHas.calls k4 t309 t310 t333 false _ A145.out).mono ?_); rintro e w299 ⟨rfl, hb⟩; refine ⟨_, rfl, ?_⟩; replace BK313 := sqb BK313 hb; replace BK314 := sqb BK314 hb; replace BK317 := sqb BK317 hb; replace BK321 := sqb BK321 hb; replace BK325 := sqb BK325 hb; replace HB := sqs HB hb; (try clear hb); obtain ⟨hcz300_0, hcz300_1, hfz300_0, hfz300_1⟩ := sqc2 BK313) | (go_at_call 63; (with_reducible refine (spec_RestHas.calls k4 t309 t310 t333 true _ A266.out).mono ?_); rintro e w301 ⟨rfl, hb⟩; replace BK313 := sqb BK313 hb; replace BK314 := sqb BK314 hb; replace BK317 := sqb BK317 hb; replace BK321 := sqb BK321 hb; replace BK325 := sqb BK325 hb; replace HB := sqs HB hb; (try clear hb); have hnb302 := NB314_317.out; have hnc302 := NB317_314.out; have hnb303 := NB314_321.out; have hnc303 := NB321_314.out; have hnb304 := NB314_325.out; have hnc304 := NB325_314.out; obtain ⟨hcz305_0, hcz305_1, hfz305_0, hfz305_1⟩ := sqc2 BK314) | (go_at_call 63; (with_reducible refine (spec_RestHas.calls k4 t311 t312 t333 true _ A268.out).mono ?_); rintro e w306 ⟨rfl, hb⟩; replace BK313 := sqb BK313 hb; replace BK314 := sqb BK314 hb; replace BK317 := sqb BK317 hb; replace BK321 := sqb BK321 hb; replace BK325 := sqb BK325 hb; replace HB := sqs HB hb; (try clear hb); have hnb307 := NB321_317.out; have hnc307 := NB317_321.out; have hnb308 := NB321_325.out; have hnc308 := NB325_321.out; obtain ⟨hcz309_0, hcz309_1, hfz309_0, hfz309_1⟩ := sqc2 BK321) | (go_at_call 64; (with_reducible refine (impl_RestHas.calls k4 t318 t319 t333 false _ A271.out).mono ?_); rintro e w310 ⟨rfl, hb⟩; replace BK313 := sqb BK313 hb; replace BK314 := sqb BK314 hb; replace BK317 := sqb BK317 hb; replace BK321 := sqb BK321 hb; replace BK325 := sqb BK325 hb; replace HB := sqs HB hb; (try clear hb)))
                                      go_ret
                                      exact sqe HB
                                  · replace c270 := Bool.eq_false_iff.mpr c270
                                    subst c270
                                    have H1 : (some false) = some r := by rw [if_neg (show ¬ (false = true) by decide)] at H; exact H
                                    clear H
                                    have H := H1
                                    clear H1
                                    obtain rfl := Option.some.inj H
                                    have hnb311 := NB313_314.out
                                    have hnc311 := NB314_313.out
                                    have hnb312 := NB313_317.out
                                    have hnc312 := NB317_313.out
                                    have hnb313 := NB313_321.out
                                    have hnc313 := NB321_313.out
                                    have hnb314 := NB313_325.out
                                    have hnc314 := NB325_313.out
                                    obtain ⟨hcz315_0, hcz315_1, hfz315_0, hfz315_1⟩ := sqc2 BK313
                                    go_wp2_with (first | ((with_reducible refine gate_callee (f := 62) rfl ?_); refine sqL (some 90) Try.func62 #[.agg #[.int .i64 t309, .int .i64 t310], .slice A0 l0.length c0, .int .i64 x10_4] ?_; (with_reducible refine (laws_ofRest.calls k4 t309 t310 _ _ l0 x10_4 t333 _ ?side1 ?side2 A144.out).mono ?_); (case side1 => repeat (first | exact (Kd.C_below HR0.out HB.out) | (with_reducible refine Kd.C_alloc ?_ _) | (with_reducible refine Kd.C_drewN ?_ _) | (with_reducible refine Kd.C_drew ?_))); (case side2 => exact HC0.out); rintro e w316 ⟨rfl, hb⟩; refine ⟨_, rfl, ?_⟩; replace BK313 := sqb BK313 hb; replace BK314 := sqb BK314 hb; replace BK317 := sqb BK317 hb; replace BK321 := sqb BK321 hb; replace BK325 := sqb BK325 hb; replace HB := sqs HB hb; (try clear hb); obtain ⟨hcz317_0, hcz317_1, hfz317_0, hfz317_1⟩ := sqc2 BK313) | ((with_reducible refine gate_callee (f := 63) rfl ?_); refine sqL (some 93) Try.func63 #[.agg #[.int .i64 t309, .int .i64 t310], .int .i64 t333] ?_; (with_reducible refine (spec_RestHas.calls k4 t309 t310 t333 false _ A145.out).mono ?_); rintro e w318 ⟨rfl, hb⟩; refine ⟨_, rfl, ?_⟩; replace BK313 := sqb BK313 hb; replace BK314 := sqb BK314 hb; replace BK317 := sqb BK317 hb; replace BK321 := sqb BK321 hb; replace BK325 := sqb BK325 hb; replace HB := sqs HB hb; (try clear hb); obtain ⟨hcz319_0, hcz319_1, hfz319_0, hfz319_1⟩ := sqc2 BK313) | (go_at_call 63; (with_reducible refine (spec_RestHas.calls k4 t309 t310 t333 true _ A266.out).mono ?_); rintro e w320 ⟨rfl, hb⟩; replace BK313 := sqb BK313 hb; replace BK314 := sqb BK314 hb; replace BK317 := sqb BK317 hb; replace BK321 := sqb BK321 hb; replace BK325 := sqb BK325 hb; replace HB := sqs HB hb; (try clear hb); have hnb321 := NB314_317.out; have hnc321 := NB317_314.out; have hnb322 := NB314_321.out; have hnc322 := NB321_314.out; have hnb323 := NB314_325.out; have hnc323 := NB325_314.out; obtain ⟨hcz324_0, hcz324_1, hfz324_0, hfz324_1⟩ := sqc2 BK314) | (go_at_call 63; (with_reducible refine (spec_RestHas.calls k4 t311 t312 t333 true _ A268.out).mono ?_); rintro e w325 ⟨rfl, hb⟩; replace BK313 := sqb BK313 hb; replace BK314 := sqb BK314 hb; replace BK317 := sqb BK317 hb; replace BK321 := sqb BK321 hb; replace BK325 := sqb BK325 hb; replace HB := sqs HB hb; (try clear hb)))
                                    go_ret
                                    exact sqe HB
                                · replace c269 := Bool.eq_false_iff.mpr c269
                                  subst c269
                                  have H1 : (laws_FnRestLattice.l0 k4 l0 t320 (wrap64 (x10_4 + 1)) t309 t310 t311 t312 t315 t316 t318 t319) = some r := by rw [if_neg (show ¬ (false = true) by decide)] at H; exact H
                                  clear H
                                  have H := H1
                                  clear H1
                                  have H' := Aside0.mk H
                                  clear H
                                  have hnb326 := NB313_314.out
                                  have hnc326 := NB314_313.out
                                  have hnb327 := NB313_317.out
                                  have hnc327 := NB317_313.out
                                  have hnb328 := NB313_321.out
                                  have hnc328 := NB321_313.out
                                  have hnb329 := NB313_325.out
                                  have hnc329 := NB325_313.out
                                  obtain ⟨hcz330_0, hcz330_1, hfz330_0, hfz330_1⟩ := sqc2 BK313
                                  go_wp2_with (first | ((with_reducible refine gate_callee (f := 62) rfl ?_); refine sqL (some 90) Try.func62 #[.agg #[.int .i64 t309, .int .i64 t310], .slice A0 l0.length c0, .int .i64 x10_4] ?_; (with_reducible refine (laws_ofRest.calls k4 t309 t310 _ _ l0 x10_4 t333 _ ?side1 ?side2 A144.out).mono ?_); (case side1 => repeat (first | exact (Kd.C_below HR0.out HB.out) | (with_reducible refine Kd.C_alloc ?_ _) | (with_reducible refine Kd.C_drewN ?_ _) | (with_reducible refine Kd.C_drew ?_))); (case side2 => exact HC0.out); rintro e w331 ⟨rfl, hb⟩; refine ⟨_, rfl, ?_⟩; replace BK313 := sqb BK313 hb; replace BK314 := sqb BK314 hb; replace BK317 := sqb BK317 hb; replace BK321 := sqb BK321 hb; replace BK325 := sqb BK325 hb; replace HB := sqs HB hb; (try clear hb); obtain ⟨hcz332_0, hcz332_1, hfz332_0, hfz332_1⟩ := sqc2 BK313) | ((with_reducible refine gate_callee (f := 63) rfl ?_); refine sqL (some 93) Try.func63 #[.agg #[.int .i64 t309, .int .i64 t310], .int .i64 t333] ?_; (with_reducible refine (spec_RestHas.calls k4 t309 t310 t333 false _ A145.out).mono ?_); rintro e w333 ⟨rfl, hb⟩; refine ⟨_, rfl, ?_⟩; replace BK313 := sqb BK313 hb; replace BK314 := sqb BK314 hb; replace BK317 := sqb BK317 hb; replace BK321 := sqb BK321 hb; replace BK325 := sqb BK325 hb; replace HB := sqs HB hb; (try clear hb); obtain ⟨hcz334_0, hcz334_1, hfz334_0, hfz334_1⟩ := sqc2 BK313) | (go_at_call 63; (with_reducible refine (spec_RestHas.calls k4 t309 t310 t333 true _ A266.out).mono ?_); rintro e w335 ⟨rfl, hb⟩; replace BK313 := sqb BK313 hb; replace BK314 := sqb BK314 hb; replace BK317 := sqb BK317 hb; replace BK321 := sqb BK321 hb; replace BK325 := sqb BK325 hb; replace HB := sqs HB hb; (try clear hb); have hnb336 := NB314_317.out; have hnc336 := NB317_314.out; have hnb337 := NB314_321.out; have hnc337 := NB321_314.out; have hnb338 := NB314_325.out; have hnc338 := NB325_314.out; obtain ⟨hcz339_0, hcz339_1, hfz339_0, hfz339_1⟩ := sqc2 BK314) | (go_at_call 63; (with_reducible refine (spec_RestHas.calls k4 t311 t312 t333 false _ A268.out).mono ?_); rintro e w340 ⟨rfl, hb⟩; replace BK313 := sqb BK313 hb; replace BK314 := sqb BK314 hb; replace BK317 := sqb BK317 hb; replace BK321 := sqb BK321 hb; replace BK325 := sqb BK325 hb; replace HB := sqs HB hb; (try clear hb)))
                                  go_roundg k4
                                  case measure => have := HJ6.out; have := HJ48.out; have := HJ76.out; have := HK4.out; omega
                                  case rel => exact ⟨(wrap64 (x10_4 + 1)), (by first | rfl | (simp; done) | (simp [*]; done)), H', ⟨by have := HJ6.out; have := HJ48.out; have := HJ76.out; have := HK4.out; omega⟩, sqk BK313, sqk BK314, sqk BK317, sqk BK321, sqk BK325, sqh HB⟩
                              · replace c267 := Bool.eq_false_iff.mpr c267
                                subst c267
                                have H1 : (laws_FnRestLattice.l0 k4 l0 t320 (wrap64 (x10_4 + 1)) t309 t310 t311 t312 t315 t316 t318 t319) = some r := by rw [if_neg (show ¬ (false = true) by decide)] at H; exact H
                                clear H
                                have H := H1
                                clear H1
                                have H' := Aside0.mk H
                                clear H
                                have hnb341 := NB313_314.out
                                have hnc341 := NB314_313.out
                                have hnb342 := NB313_317.out
                                have hnc342 := NB317_313.out
                                have hnb343 := NB313_321.out
                                have hnc343 := NB321_313.out
                                have hnb344 := NB313_325.out
                                have hnc344 := NB325_313.out
                                obtain ⟨hcz345_0, hcz345_1, hfz345_0, hfz345_1⟩ := sqc2 BK313
                                go_wp2_with (first | ((with_reducible refine gate_callee (f := 62) rfl ?_); refine sqL (some 90) Try.func62 #[.agg #[.int .i64 t309, .int .i64 t310], .slice A0 l0.length c0, .int .i64 x10_4] ?_; (with_reducible refine (laws_ofRest.calls k4 t309 t310 _ _ l0 x10_4 t333 _ ?side1 ?side2 A144.out).mono ?_); (case side1 => repeat (first | exact (Kd.C_below HR0.out HB.out) | (with_reducible refine Kd.C_alloc ?_ _) | (with_reducible refine Kd.C_drewN ?_ _) | (with_reducible refine Kd.C_drew ?_))); (case side2 => exact HC0.out); rintro e w346 ⟨rfl, hb⟩; refine ⟨_, rfl, ?_⟩; replace BK313 := sqb BK313 hb; replace BK314 := sqb BK314 hb; replace BK317 := sqb BK317 hb; replace BK321 := sqb BK321 hb; replace BK325 := sqb BK325 hb; replace HB := sqs HB hb; (try clear hb); obtain ⟨hcz347_0, hcz347_1, hfz347_0, hfz347_1⟩ := sqc2 BK313) | ((with_reducible refine gate_callee (f := 63) rfl ?_); refine sqL (some 93) Try.func63 #[.agg #[.int .i64 t309, .int .i64 t310], .int .i64 t333] ?_; (with_reducible refine (spec_RestHas.calls k4 t309 t310 t333 false _ A145.out).mono ?_); rintro e w348 ⟨rfl, hb⟩; refine ⟨_, rfl, ?_⟩; replace BK313 := sqb BK313 hb; replace BK314 := sqb BK314 hb; replace BK317 := sqb BK317 hb; replace BK321 := sqb BK321 hb; replace BK325 := sqb BK325 hb; replace HB := sqs HB hb; (try clear hb); obtain ⟨hcz349_0, hcz349_1, hfz349_0, hfz349_1⟩ := sqc2 BK313) | (go_at_call 63; (with_reducible refine (spec_RestHas.calls k4 t309 t310 t333 false _ A266.out).mono ?_); rintro e w350 ⟨rfl, hb⟩; replace BK313 := sqb BK313 hb; replace BK314 := sqb BK314 hb; replace BK317 := sqb BK317 hb; replace BK321 := sqb BK321 hb; replace BK325 := sqb BK325 hb; replace HB := sqs HB hb; (try clear hb)))
                                go_roundg k4
                                case measure => have := HJ6.out; have := HJ48.out; have := HJ76.out; have := HK4.out; omega
                                case rel => exact ⟨(wrap64 (x10_4 + 1)), (by first | rfl | (simp; done) | (simp [*]; done)), H', ⟨by have := HJ6.out; have := HJ48.out; have := HJ76.out; have := HK4.out; omega⟩, sqk BK313, sqk BK314, sqk BK317, sqk BK321, sqk BK325, sqh HB⟩
                          · rw [if_neg c143] at H
                            have c143b0 : decide (x10_4 < 8) = false := decide_eq_false c143
                            clear c143
                            obtain rfl := Option.some.inj H
                            go_wp2
                            go_ret
                            exact sqe HB

/-- THE ONE PURE STATEMENT of laws_FnRestLattice: yours. -/
theorem laws_FnRestLattice.walk (P : laws_FnRestLattice.Pure) (a0 : Option Addr) (len0 cap0 : Nat) (z0 : List Int) (w : World) (w0 : (a0 = none ∧ len0 = 0 ∧ cap0 = 0 ∧ z0 = []) ∨ ∃ x, a0 = some x ∧ len0 ≤ cap0 ∧ cap0 ≤ maxLen ∧ z0.length = cap0 ∧ (∀ i, i < z0.length → w.cell? (x.add i) = some (.int .u8 (z0.getD i 0))) ∧ ∀ n ∈ z0, (Lit.int .u8 n).wf = true) (y0 : len0 * 1 ≤ 140737488351232) :
    Calls Try.prog 13 #[.slice a0 len0 cap0] w fun e w' => e = .returned (.bool true) ∧ Below w.heap.size w w' := by
  obtain ⟨l0, rfl, hr0, hm0, hw0, hc0⟩ := ReadsInt.ofRowC w0
  obtain ⟨k, h⟩ := P l0 hm0 y0 hw0
  refine (laws_FnRestLattice.calls k _ _ l0 true w (Kd.C_of_reads (d := (0 : Int)) (h1 := fun _ => rfl) hr0) hc0 h).mono ?_
  rintro e w' ⟨rfl, hd⟩
  exact ⟨rfl, hd⟩

end Go.Proofs.Ytmdcgkkkfncieaa.PFnRestLattice
