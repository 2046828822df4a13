/- Functions of the program as plain Lean functions, and that calls of them come to what these tell. Conditions: those in each law. -/
import Derived.Test.YtmdcgkkkfncieaaSq
import Derived.Test.YtmdcgkkkfncieaaQFnNumRestx0
import Derived.Test.YtmdcgkkkfncieaaQFnNumRestx2
import Derived.Test.YtmdcgkkkfncieaaQFnNumRestx3
import Derived.Test.YtmdcgkkkfncieaaQFnNumRestx4
namespace Go.Proofs.Ytmdcgkkkfncieaa.PFnNumRest
open Go.RowKit Go.Proofs.Ytmdcgkkkfncieaa.Sq Go.Proofs.YtmdcgkkkfncieaaW.PrintWords Go.Proofs.YtmdcgkkkfncieaaW.PrintLast Go.Proofs.YtmdcgkkkfncieaaW.PrintMore
attribute [local go_sem] max2_int min2_int max_two min_two max_three min_three max_four min_four   -- for this text's walks alone
set_option linter.unusedVariables false
set_option linter.unusedSimpArgs false

/-! ### laws_FnNumRest: function 10 -/
mutual
def laws_FnNumRest.j0 : Nat → List Int → Int → Int → Int → Int → Int → Int → Int → Int → Bool → Option (Bool)
  | 0, _, _, _, _, _, _, _, _, _, _ => none
  | k + 1, x0, x4, x5, x6, x7, x8, x9, x10, x11, x61 => if x61 = true then (if x6 = x10 then (some (x7 == x11)) else (some false)) else (if x5 = 0 then (if x7 = 2 then (some (x9 == 2)) else (some false)) else (if x7 = 0 then (if (wrap64 ((wrap64 (x6 * x5)) + x8)) = x4 then (if (wrap64 (x8 * x8)) ≥ (wrap64 (x5 * x5)) then (laws_FnNumRest.j1 k x0 x4 true) else (if (wrap64 (x8 * x4)) < 0 then (laws_FnNumRest.j1 k x0 x4 true) else (laws_FnNumRest.j1 k x0 x4 (x9 != 0)))) else (laws_FnNumRest.j1 k x0 x4 true)) else (laws_FnNumRest.j1 k x0 x4 (x9 != 0))))
def laws_FnNumRest.j1 : Nat → List Int → Int → Bool → Option (Bool)
  | 0, _, _, _ => none
  | k + 1, x0, x4, x107 => if x107 = true then (some false) else ((laws_at.f x0 3).bind fun t201 => ((impl_NumDo.f k 9 x4 (Int.tmod (wrap64 (t201)) 32)).bind fun bt202 => (if bt202.2 = 0 then ((impl_NumDo.f k 10 bt202.1 (Int.tmod (wrap64 (t201)) 32)).bind fun bt204 => (if bt204.2 = 0 then (some (bt204.1 == x4)) else (some false))) else (some (bt202.2 == 1)))))
end
def laws_FnNumRest.f (k : Nat) (l0 : List Int) : Option (Bool) := if (l0.length : Int) > 1048576 then (some true) else ((spec_DrawNumDo.f k l0).bind fun bt190 => ((impl_NumDo.f k 4 bt190.2.1 bt190.2.2).bind fun bt193 => ((impl_NumDo.f k 5 bt190.2.1 bt190.2.2).bind fun bt195 => ((spec_NumDo.f k 4 bt190.2.1 bt190.2.2).bind fun bt197 => (if bt193.1 = bt197.1 then (if bt193.2 = bt197.2 then ((spec_NumOk.f bt190.2.1).bind fun t199 => (if t199 = true then ((spec_NumOk.f bt190.2.2).bind fun t200 => (laws_FnNumRest.j0 k l0 bt190.2.1 bt190.2.2 bt193.1 bt193.2 bt195.1 bt195.2 bt197.1 bt197.2 (!t200))) else (laws_FnNumRest.j0 k l0 bt190.2.1 bt190.2.2 bt193.1 bt193.2 bt195.1 bt195.2 bt197.1 bt197.2 true))) else (laws_FnNumRest.j0 k l0 bt190.2.1 bt190.2.2 bt193.1 bt193.2 bt195.1 bt195.2 bt197.1 bt197.2 true)) else (laws_FnNumRest.j0 k l0 bt190.2.1 bt190.2.2 bt193.1 bt193.2 bt195.1 bt195.2 bt197.1 bt197.2 true))))))
theorem laws_FnNumRest.mono_l : ∀ k, (∀ y0 y1 y2 y3 y4 y5 y6 y7 y8 y9, LeO (laws_FnNumRest.j0 k y0 y1 y2 y3 y4 y5 y6 y7 y8 y9) (laws_FnNumRest.j0 (k + 1) y0 y1 y2 y3 y4 y5 y6 y7 y8 y9)) ∧ (∀ y0 y1 y2, LeO (laws_FnNumRest.j1 k y0 y1 y2) (laws_FnNumRest.j1 (k + 1) y0 y1 y2))
  | 0 => ⟨fun _ _ _ _ _ _ _ _ _ _ r h => by simp [laws_FnNumRest.j0] at h, fun _ _ _ r h => by simp [laws_FnNumRest.j1] at h⟩
  | k + 1 => by
    obtain ⟨ih0, ih1⟩ := laws_FnNumRest.mono_l k
    refine ⟨?_, ?_⟩
    · intro y0 y1 y2 y3 y4 y5 y6 y7 y8 y9
      unfold laws_FnNumRest.j0
      repeat' first
      | (with_reducible exact ih0 _ _ _ _ _ _ _ _ _ _)
      | (with_reducible exact ih1 _ _ _)
      | (with_reducible exact impl_NumDo.mono _ _ _ _)
      | (with_reducible exact spec_DrawNumDo.mono _ _)
      | (with_reducible exact spec_NumDo.mono _ _ _ _)
      | (with_reducible exact LeO.refl _)
      | (with_reducible exact LeO.none _)
      | (with_reducible refine LeO.ite ?_ ?_)
      | (with_reducible refine LeO.bind ?_ (fun _ => ?_))
      | exact ih0 _ _ _ _ _ _ _ _ _ _
      | exact ih1 _ _ _
      | exact impl_NumDo.mono _ _ _ _
      | exact spec_DrawNumDo.mono _ _
      | exact spec_NumDo.mono _ _ _ _
      | exact LeO.none _
      | refine LeO.ite ?_ ?_
      | refine LeO.bind ?_ (fun _ => ?_)
    · intro y0 y1 y2
      unfold laws_FnNumRest.j1
      repeat' first
      | (with_reducible exact ih0 _ _ _ _ _ _ _ _ _ _)
      | (with_reducible exact ih1 _ _ _)
      | (with_reducible exact impl_NumDo.mono _ _ _ _)
      | (with_reducible exact spec_DrawNumDo.mono _ _)
      | (with_reducible exact spec_NumDo.mono _ _ _ _)
      | (with_reducible exact LeO.refl _)
      | (with_reducible exact LeO.none _)
      | (with_reducible refine LeO.ite ?_ ?_)
      | (with_reducible refine LeO.bind ?_ (fun _ => ?_))
      | exact ih0 _ _ _ _ _ _ _ _ _ _
      | exact ih1 _ _ _
      | exact impl_NumDo.mono _ _ _ _
      | exact spec_DrawNumDo.mono _ _
      | exact spec_NumDo.mono _ _ _ _
      | exact LeO.none _
      | refine LeO.ite ?_ ?_
      | refine LeO.bind ?_ (fun _ => ?_)
theorem laws_FnNumRest.mono : ∀ a0 k, LeO (laws_FnNumRest.f k a0) (laws_FnNumRest.f (k + 1) a0) := by
  intro a0 k
  obtain ⟨ih0, ih1⟩ := laws_FnNumRest.mono_l k
  unfold laws_FnNumRest.f
  repeat' first
      | (with_reducible exact ih0 _ _ _ _ _ _ _ _ _ _)
      | (with_reducible exact ih1 _ _ _)
      | (with_reducible exact impl_NumDo.mono _ _ _ _)
      | (with_reducible exact spec_DrawNumDo.mono _ _)
      | (with_reducible exact spec_NumDo.mono _ _ _ _)
      | (with_reducible exact LeO.refl _)
      | (with_reducible exact LeO.none _)
      | (with_reducible refine LeO.ite ?_ ?_)
      | (with_reducible refine LeO.bind ?_ (fun _ => ?_))
      | exact ih0 _ _ _ _ _ _ _ _ _ _
      | exact ih1 _ _ _
      | exact impl_NumDo.mono _ _ _ _
      | exact spec_DrawNumDo.mono _ _
      | exact spec_NumDo.mono _ _ _ _
      | exact LeO.none _
      | refine LeO.ite ?_ ?_
      | refine LeO.bind ?_ (fun _ => ?_)
set_option maxHeartbeats 8000000 in
set_option maxRecDepth 100000 in
theorem laws_FnNumRest.calls (k : Nat) (A0 : Option Addr) (c0 : Nat) (l0 : List Int) (r : Bool) (w : World) (hr0 : Kd.C (Kd.int .u8) w A0 l0.length l0) (hc0 : l0.length ≤ c0) (h : laws_FnNumRest.f k l0 = some r) :
    Calls Try.prog 10 #[.slice A0 l0.length c0] w fun e w' => e = .returned (.bool r) ∧ Below w.heap.size w w' := by
  have HR0 := Aside0.mk hr0
  have HC0 := Aside0.mk hc0
  clear hr0 hc0
  have HB := Aside0.mk (Below.refl w.heap.size w)
  have H : (if (l0.length : Int) > 1048576 then (some true) else ((spec_DrawNumDo.f k l0).bind fun bt190 => ((impl_NumDo.f k 4 bt190.2.1 bt190.2.2).bind fun bt193 => ((impl_NumDo.f k 5 bt190.2.1 bt190.2.2).bind fun bt195 => ((spec_NumDo.f k 4 bt190.2.1 bt190.2.2).bind fun bt197 => (if bt193.1 = bt197.1 then (if bt193.2 = bt197.2 then ((spec_NumOk.f bt190.2.1).bind fun t199 => (if t199 = true then ((spec_NumOk.f bt190.2.2).bind fun t200 => (laws_FnNumRest.j0 k l0 bt190.2.1 bt190.2.2 bt193.1 bt193.2 bt195.1 bt195.2 bt197.1 bt197.2 (!t200))) else (laws_FnNumRest.j0 k l0 bt190.2.1 bt190.2.2 bt193.1 bt193.2 bt195.1 bt195.2 bt197.1 bt197.2 true))) else (laws_FnNumRest.j0 k l0 bt190.2.1 bt190.2.2 bt193.1 bt193.2 bt195.1 bt195.2 bt197.1 bt197.2 true)) else (laws_FnNumRest.j0 k l0 bt190.2.1 bt190.2.2 bt193.1 bt193.2 bt195.1 bt195.2 bt197.1 bt197.2 true))))))) = some r := h
  clear h
  by_cases c2 : (l0.length : Int) > 1048576
  · rw [if_pos c2] at H
    have c2b0 : decide (1048576 < (l0.length : Int)) = true := decide_eq_true c2
    have c2b1 : decide (1048576 < l0.length) = true := decide_eq_true (by omega)
    clear c2
    obtain rfl := Option.some.inj H
    go_enter Try.func10, Try.ntmps10
    go_wp2
    go_ret
    exact sqe HB
  · rw [if_neg c2] at H
    have c2b0 : decide (1048576 < (l0.length : Int)) = false := decide_eq_false c2
    have c2b1 : decide (1048576 < l0.length) = false := decide_eq_false (by omega)
    clear c2
    replace H := Option.bind_eq_some_iff.mp H
    obtain ⟨⟨t190, t191, t192⟩, A30, H⟩ := H
    replace H : ((impl_NumDo.f k 4 t191 t192).bind fun bt193 => ((impl_NumDo.f k 5 t191 t192).bind fun bt195 => ((spec_NumDo.f k 4 t191 t192).bind fun bt197 => (if bt193.1 = bt197.1 then (if bt193.2 = bt197.2 then ((spec_NumOk.f t191).bind fun t199 => (if t199 = true then ((spec_NumOk.f t192).bind fun t200 => (laws_FnNumRest.j0 k l0 t191 t192 bt193.1 bt193.2 bt195.1 bt195.2 bt197.1 bt197.2 (!t200))) else (laws_FnNumRest.j0 k l0 t191 t192 bt193.1 bt193.2 bt195.1 bt195.2 bt197.1 bt197.2 true))) else (laws_FnNumRest.j0 k l0 t191 t192 bt193.1 bt193.2 bt195.1 bt195.2 bt197.1 bt197.2 true)) else (laws_FnNumRest.j0 k l0 t191 t192 bt193.1 bt193.2 bt195.1 bt195.2 bt197.1 bt197.2 true))))) = some r := H
    have A3 := Aside0.mk A30
    clear A30
    replace H := Option.bind_eq_some_iff.mp H
    obtain ⟨⟨t193, t194⟩, A40, H⟩ := H
    replace H : ((impl_NumDo.f k 5 t191 t192).bind fun bt195 => ((spec_NumDo.f k 4 t191 t192).bind fun bt197 => (if t193 = bt197.1 then (if t194 = bt197.2 then ((spec_NumOk.f t191).bind fun t199 => (if t199 = true then ((spec_NumOk.f t192).bind fun t200 => (laws_FnNumRest.j0 k l0 t191 t192 t193 t194 bt195.1 bt195.2 bt197.1 bt197.2 (!t200))) else (laws_FnNumRest.j0 k l0 t191 t192 t193 t194 bt195.1 bt195.2 bt197.1 bt197.2 true))) else (laws_FnNumRest.j0 k l0 t191 t192 t193 t194 bt195.1 bt195.2 bt197.1 bt197.2 true)) else (laws_FnNumRest.j0 k l0 t191 t192 t193 t194 bt195.1 bt195.2 bt197.1 bt197.2 true)))) = some r := H
    have A4 := Aside0.mk A40
    clear A40
    replace H := Option.bind_eq_some_iff.mp H
    obtain ⟨⟨t195, t196⟩, A50, H⟩ := H
    replace H : ((spec_NumDo.f k 4 t191 t192).bind fun bt197 => (if t193 = bt197.1 then (if t194 = bt197.2 then ((spec_NumOk.f t191).bind fun t199 => (if t199 = true then ((spec_NumOk.f t192).bind fun t200 => (laws_FnNumRest.j0 k l0 t191 t192 t193 t194 t195 t196 bt197.1 bt197.2 (!t200))) else (laws_FnNumRest.j0 k l0 t191 t192 t193 t194 t195 t196 bt197.1 bt197.2 true))) else (laws_FnNumRest.j0 k l0 t191 t192 t193 t194 t195 t196 bt197.1 bt197.2 true)) else (laws_FnNumRest.j0 k l0 t191 t192 t193 t194 t195 t196 bt197.1 bt197.2 true))) = some r := H
    have A5 := Aside0.mk A50
    clear A50
    replace H := Option.bind_eq_some_iff.mp H
    obtain ⟨⟨t197, t198⟩, A60, H⟩ := H
    replace H : (if t193 = t197 then (if t194 = t198 then ((spec_NumOk.f t191).bind fun t199 => (if t199 = true then ((spec_NumOk.f t192).bind fun t200 => (laws_FnNumRest.j0 k l0 t191 t192 t193 t194 t195 t196 t197 t198 (!t200))) else (laws_FnNumRest.j0 k l0 t191 t192 t193 t194 t195 t196 t197 t198 true))) else (laws_FnNumRest.j0 k l0 t191 t192 t193 t194 t195 t196 t197 t198 true)) else (laws_FnNumRest.j0 k l0 t191 t192 t193 t194 t195 t196 t197 t198 true)) = some r := H
    have A6 := Aside0.mk A60
    clear A60
    have HC7 := Aside0.mk H
    clear H
    go_enter Try.func10, Try.ntmps10
    go_upto_region 7 with (first | ((with_reducible refine gate_callee (f := 34) rfl ?_); refine sqL (some 22) Try.func34 #[.slice A0 l0.length c0] ?_; (with_reducible refine (spec_DrawNumDo.calls k _ _ l0 t190 t191 t192 _ ?side1 ?side2 A3.out).mono ?_); (case side1 => repeat (first | exact HR0.out | (with_reducible refine Kd.C_alloc ?_ _) | (with_reducible refine Kd.C_drewN ?_ _) | (with_reducible refine Kd.C_drew ?_))); (case side2 => exact HC0.out); rintro e w8 ⟨rfl, hb⟩; refine ⟨_, rfl, ?_⟩; replace HB := sqs HB hb; (try clear hb); (try clear hb2); (try clear hk); (try clear hi)) | ((with_reducible refine gate_callee (f := 35) rfl ?_); refine sqL (some 29) Try.func35 #[.int .i64 4, .int .i64 t191, .int .i64 t192] ?_; (with_reducible refine (impl_NumDo.calls k 4 t191 t192 t193 t194 _ A4.out).mono ?_); rintro e w' ⟨rfl, ⟨nd, rfl⟩⟩; refine ⟨_, rfl, ?_⟩) | ((with_reducible refine gate_callee (f := 35) rfl ?_); refine sqL (some 35) Try.func35 #[.int .i64 5, .int .i64 t191, .int .i64 t192] ?_; (with_reducible refine (impl_NumDo.calls k 5 t191 t192 t195 t196 _ A5.out).mono ?_); rintro e w' ⟨rfl, ⟨nd, rfl⟩⟩; refine ⟨_, rfl, ?_⟩) | ((with_reducible refine gate_callee (f := 36) rfl ?_); refine sqL (some 41) Try.func36 #[.int .i64 4, .int .i64 t191, .int .i64 t192] ?_; (with_reducible refine (spec_NumDo.calls k 4 t191 t192 t197 t198 _ A6.out).mono ?_); rintro e w' ⟨rfl, ⟨nd, rfl⟩⟩; refine ⟨_, rfl, ?_⟩))
    (try simp only [Act.put, List.setIfInBounds_toArray, List.set_cons_zero, List.set_cons_succ])
    go_cut [61] (fun v61 wc => ∃ (kq : Nat) (x61_6 : Bool), v61 = .bool x61_6 ∧ Aside0 (laws_FnNumRest.j0 kq l0 t191 t192 t193 t194 t195 t196 t197 t198 x61_6 = some r) ∧ Aside0 (kq ≤ k) ∧ Aside0 (Below w.heap.size w wc))
    case first =>
      have H := HC7.out
      clear HC7
      by_cases c9 : t193 = t197
      · rw [if_pos c9] at H
        have c9b0 : (t193 == t197) = true := beq_iff_eq.mpr c9
        have c9b1 : (t193 != t197) = false := bne_eq_false_iff_eq.mpr c9
        clear c9
        (first | rw [c9b0] | (simp only [i64_w, i32_w]; rw [c9b0]) | skip)
        by_cases c10 : t194 = t198
        · rw [if_pos c10] at H
          have c10b0 : (t194 == t198) = true := beq_iff_eq.mpr c10
          have c10b1 : (t194 != t198) = false := bne_eq_false_iff_eq.mpr c10
          clear c10
          replace H := Option.bind_eq_some_iff.mp H
          obtain ⟨t199, A110, H⟩ := H
          replace H : (if t199 = true then ((spec_NumOk.f t192).bind fun t200 => (laws_FnNumRest.j0 k l0 t191 t192 t193 t194 t195 t196 t197 t198 (!t200))) else (laws_FnNumRest.j0 k l0 t191 t192 t193 t194 t195 t196 t197 t198 true)) = some r := H
          have A11 := Aside0.mk A110
          clear A110
          by_cases c12 : t199 = true
          · subst c12
            have H1 : ((spec_NumOk.f t192).bind fun t200 => (laws_FnNumRest.j0 k l0 t191 t192 t193 t194 t195 t196 t197 t198 (!t200))) = some r := by rw [if_pos rfl] at H; exact H
            clear H
            have H := H1
            clear H1
            replace H := Option.bind_eq_some_iff.mp H
            obtain ⟨t200, A130, H⟩ := H
            replace H : (laws_FnNumRest.j0 k l0 t191 t192 t193 t194 t195 t196 t197 t198 (!t200)) = some r := H
            have A13 := Aside0.mk A130
            clear A130
            have H' := Aside0.mk H
            clear H
            go_wp2_with (first | (go_at_call 37; (with_reducible refine (spec_NumOk.calls t191 true _ A11.out).mono ?_); rintro e w' ⟨rfl, ⟨nd, rfl⟩⟩) | (go_at_call 37; (with_reducible refine (spec_NumOk.calls t192 t200 _ A13.out).mono ?_); rintro e w' ⟨rfl, ⟨nd, rfl⟩⟩))
            go_meet
            case rel => exact ⟨_, (!t200), (by first | rfl | (simp; done) | (simp [*]; done)), H', ⟨by first | omega | exact Nat.le_refl _⟩, sqh HB⟩
          · replace c12 := Bool.eq_false_iff.mpr c12
            subst c12
            have H1 : (laws_FnNumRest.j0 k l0 t191 t192 t193 t194 t195 t196 t197 t198 true) = some r := by rw [if_neg (show ¬ (false = true) by decide)] at H; exact H
            clear H
            have H := H1
            clear H1
            have H' := Aside0.mk H
            clear H
            go_wp2_with (first | (go_at_call 37; (with_reducible refine (spec_NumOk.calls t191 false _ A11.out).mono ?_); rintro e w' ⟨rfl, ⟨nd, rfl⟩⟩))
            go_meet
            case rel => exact ⟨_, (true), (by first | rfl | (simp; done) | (simp [*]; done)), H', ⟨by first | omega | exact Nat.le_refl _⟩, sqh HB⟩
        · rw [if_neg c10] at H
          have c10b0 : (t194 == t198) = false := beq_eq_false_iff_ne.mpr c10
          have c10b1 : (t194 != t198) = true := bne_iff_ne.mpr c10
          have H' := Aside0.mk H
          clear H
          go_wp2
          go_meet
          case rel => exact ⟨_, (true), (by first | rfl | (simp; done) | (simp [*]; done)), H', ⟨by first | omega | exact Nat.le_refl _⟩, sqh HB⟩
      · rw [if_neg c9] at H
        have c9b0 : (t193 == t197) = false := beq_eq_false_iff_ne.mpr c9
        have c9b1 : (t193 != t197) = true := bne_iff_ne.mpr c9
        (first | rw [c9b0] | (simp only [i64_w, i32_w]; rw [c9b0]) | skip)
        have H' := Aside0.mk H
        clear H
        go_wp2
        go_meet
        case rel => exact ⟨_, (true), (by first | rfl | (simp; done) | (simp [*]; done)), H', ⟨by first | omega | exact Nat.le_refl _⟩, sqh HB⟩
    case rest =>
      clear HC7
      try clear c1
      try clear c2
      try clear c2b0
      try clear c2b1
      try clear p2
      try clear c3
      try clear c9
      try clear c9b0
      try clear c9b1
      try clear c10
      try clear c10b0
      try clear c10b1
      try clear c12
      obtain ⟨kq, x61_6, rfl, HA, HJ6, HB⟩ := hcut
      cases kq with
      | zero => exact absurd HA.out (by simp [laws_FnNumRest.j0])
      | succ kj6 =>
        have H := HA.out
        clear HA
        simp only [laws_FnNumRest.j0] at H
        by_cases c14 : x61_6 = true
        · subst c14
          have H1 : (if t193 = t197 then (some (t194 == t198)) else (some false)) = some r := by rw [if_pos rfl] at H; exact H
          clear H
          have H := H1
          clear H1
          by_cases c15 : t193 = t197
          · rw [if_pos c15] at H
            have c15b0 : (t193 == t197) = true := beq_iff_eq.mpr c15
            have c15b1 : (t193 != t197) = false := bne_eq_false_iff_eq.mpr c15
            clear c15
            obtain rfl := Option.some.inj H
            go_wp2
            go_ret
            exact sqe HB
          · rw [if_neg c15] at H
            have c15b0 : (t193 == t197) = false := beq_eq_false_iff_ne.mpr c15
            have c15b1 : (t193 != t197) = true := bne_iff_ne.mpr c15
            obtain rfl := Option.some.inj H
            go_wp2
            go_ret
            exact sqe HB
        · replace c14 := Bool.eq_false_iff.mpr c14
          subst c14
          have H1 : (if t192 = 0 then (if t194 = 2 then (some (t196 == 2)) else (some false)) else (if t194 = 0 then (if (wrap64 ((wrap64 (t193 * t192)) + t195)) = t191 then (if (wrap64 (t195 * t195)) ≥ (wrap64 (t192 * t192)) then (laws_FnNumRest.j1 kj6 l0 t191 true) else (if (wrap64 (t195 * t191)) < 0 then (laws_FnNumRest.j1 kj6 l0 t191 true) else (laws_FnNumRest.j1 kj6 l0 t191 (t196 != 0)))) else (laws_FnNumRest.j1 kj6 l0 t191 true)) else (laws_FnNumRest.j1 kj6 l0 t191 (t196 != 0)))) = some r := by rw [if_neg (show ¬ (false = true) by decide)] at H; exact H
          clear H
          have H := H1
          clear H1
          by_cases c16 : t192 = 0
          · rw [if_pos c16] at H
            have c16b0 : (t192 == 0) = true := beq_iff_eq.mpr c16
            have c16b1 : (t192 != 0) = false := bne_eq_false_iff_eq.mpr c16
            clear c16
            by_cases c17 : t194 = 2
            · rw [if_pos c17] at H
              have c17b0 : (t194 == 2) = true := beq_iff_eq.mpr c17
              have c17b1 : (t194 != 2) = false := bne_eq_false_iff_eq.mpr c17
              clear c17
              obtain rfl := Option.some.inj H
              go_wp2
              go_ret
              exact sqe HB
            · rw [if_neg c17] at H
              have c17b0 : (t194 == 2) = false := beq_eq_false_iff_ne.mpr c17
              have c17b1 : (t194 != 2) = true := bne_iff_ne.mpr c17
              obtain rfl := Option.some.inj H
              go_wp2
              go_ret
              exact sqe HB
          · rw [if_neg c16] at H
            have c16b0 : (t192 == 0) = false := beq_eq_false_iff_ne.mpr c16
            have c16b1 : (t192 != 0) = true := bne_iff_ne.mpr c16
            have HC18 := Aside0.mk H
            clear H
            go_upto_region 11 with (fail)
            go_cut [107] (fun v107 wc => ∃ (kq : Nat) (x107_17 : Bool), v107 = .bool x107_17 ∧ Aside0 (laws_FnNumRest.j1 kq l0 t191 x107_17 = some r) ∧ Aside0 (kq ≤ kj6) ∧ Aside0 (Below w.heap.size w wc))
            case first =>
              have H := HC18.out
              clear HC18
              by_cases c19 : t194 = 0
              · rw [if_pos c19] at H
                have c19b0 : (t194 == 0) = true := beq_iff_eq.mpr c19
                have c19b1 : (t194 != 0) = false := bne_eq_false_iff_eq.mpr c19
                clear c19
                (first | rw [c19b0] | (simp only [i64_w, i32_w]; rw [c19b0]) | skip)
                by_cases c20 : (wrap64 ((wrap64 (t193 * t192)) + t195)) = t191
                · rw [if_pos c20] at H
                  have c20b0 : ((wrap64 ((wrap64 (t193 * t192)) + t195)) == t191) = true := beq_iff_eq.mpr c20
                  have c20b1 : ((wrap64 ((wrap64 (t193 * t192)) + t195)) != t191) = false := bne_eq_false_iff_eq.mpr c20
                  clear c20
                  by_cases c21 : (wrap64 (t195 * t195)) ≥ (wrap64 (t192 * t192))
                  · rw [if_pos c21] at H
                    have c21b0 : decide ((wrap64 (t192 * t192)) ≤ (wrap64 (t195 * t195))) = true := decide_eq_true c21
                    clear c21
                    have H' := Aside0.mk H
                    clear H
                    go_wp2
                    go_meet
                    case rel => exact ⟨_, (true), (by first | rfl | (simp; done) | (simp [*]; done)), H', ⟨by have := HJ6.out; first | omega | exact Nat.le_refl _⟩, sqh HB⟩
                  · rw [if_neg c21] at H
                    have c21b0 : decide ((wrap64 (t192 * t192)) ≤ (wrap64 (t195 * t195))) = false := decide_eq_false c21
                    clear c21
                    by_cases c22 : (wrap64 (t195 * t191)) < 0
                    · rw [if_pos c22] at H
                      have c22b0 : decide ((wrap64 (t195 * t191)) < 0) = true := decide_eq_true c22
                      clear c22
                      have H' := Aside0.mk H
                      clear H
                      go_wp2
                      go_meet
                      case rel => exact ⟨_, (true), (by first | rfl | (simp; done) | (simp [*]; done)), H', ⟨by have := HJ6.out; first | omega | exact Nat.le_refl _⟩, sqh HB⟩
                    · rw [if_neg c22] at H
                      have c22b0 : decide ((wrap64 (t195 * t191)) < 0) = false := decide_eq_false c22
                      clear c22
                      have H' := Aside0.mk H
                      clear H
                      go_wp2
                      go_meet
                      case rel => exact ⟨_, ((t196 != 0)), (by first | rfl | (simp; done) | (simp [*]; done)), H', ⟨by have := HJ6.out; first | omega | exact Nat.le_refl _⟩, sqh HB⟩
                · rw [if_neg c20] at H
                  have c20b0 : ((wrap64 ((wrap64 (t193 * t192)) + t195)) == t191) = false := beq_eq_false_iff_ne.mpr c20
                  have c20b1 : ((wrap64 ((wrap64 (t193 * t192)) + t195)) != t191) = true := bne_iff_ne.mpr c20
                  have H' := Aside0.mk H
                  clear H
                  go_wp2
                  go_meet
                  case rel => exact ⟨_, (true), (by first | rfl | (simp; done) | (simp [*]; done)), H', ⟨by have := HJ6.out; first | omega | exact Nat.le_refl _⟩, sqh HB⟩
              · rw [if_neg c19] at H
                have c19b0 : (t194 == 0) = false := beq_eq_false_iff_ne.mpr c19
                have c19b1 : (t194 != 0) = true := bne_iff_ne.mpr c19
                (first | rw [c19b0] | (simp only [i64_w, i32_w]; rw [c19b0]) | skip)
                have H' := Aside0.mk H
                clear H
                go_wp2
                go_meet
                case rel => exact ⟨_, ((t196 != 0)), (by first | rfl | (simp; done) | (simp [*]; done)), H', ⟨by have := HJ6.out; first | omega | exact Nat.le_refl _⟩, sqh HB⟩
            case rest =>
              clear HC18
              try clear c1
              try clear c2
              try clear c2b0
              try clear c2b1
              try clear p2
              try clear c3
              try clear p6
              try clear c9
              try clear c9b0
              try clear c9b1
              try clear c10
              try clear c10b0
              try clear c10b1
              try clear c12
              try clear c14
              try clear c15
              try clear c15b0
              try clear c15b1
              try clear c16
              try clear c16b0
              try clear c16b1
              try clear c17
              try clear c17b0
              try clear c17b1
              try clear c19
              try clear c19b0
              try clear c19b1
              try clear c20
              try clear c20b0
              try clear c20b1
              try clear c21
              try clear c21b0
              try clear c22
              try clear c22b0
              try clear p2
              obtain ⟨kq, x107_17, rfl, HA, HJ17, HB⟩ := hcut
              cases kq with
              | zero => exact absurd HA.out (by simp [laws_FnNumRest.j1])
              | succ kj17 =>
                have H := HA.out
                clear HA
                simp only [laws_FnNumRest.j1] at H
                by_cases c23 : x107_17 = true
                · subst c23
                  have H1 : (some false) = some r := by rw [if_pos rfl] at H; exact H
                  clear H
                  have H := H1
                  clear H1
                  obtain rfl := Option.some.inj H
                  go_wp2
                  go_ret
                  exact sqe HB
                · replace c23 := Bool.eq_false_iff.mpr c23
                  subst c23
                  have H1 : ((laws_at.f l0 3).bind fun t201 => ((impl_NumDo.f kj17 9 t191 (Int.tmod (wrap64 (t201)) 32)).bind fun bt202 => (if bt202.2 = 0 then ((impl_NumDo.f kj17 10 bt202.1 (Int.tmod (wrap64 (t201)) 32)).bind fun bt204 => (if bt204.2 = 0 then (some (bt204.1 == t191)) else (some false))) else (some (bt202.2 == 1))))) = some r := by rw [if_neg (show ¬ (false = true) by decide)] at H; exact H
                  clear H
                  have H := H1
                  clear H1
                  replace H := Option.bind_eq_some_iff.mp H
                  obtain ⟨t201, A240, H⟩ := H
                  replace H : ((impl_NumDo.f kj17 9 t191 (Int.tmod (wrap64 (t201)) 32)).bind fun bt202 => (if bt202.2 = 0 then ((impl_NumDo.f kj17 10 bt202.1 (Int.tmod (wrap64 (t201)) 32)).bind fun bt204 => (if bt204.2 = 0 then (some (bt204.1 == t191)) else (some false))) else (some (bt202.2 == 1)))) = some r := H
                  have A24 := Aside0.mk A240
                  clear A240
                  replace H := Option.bind_eq_some_iff.mp H
                  obtain ⟨⟨t202, t203⟩, A250, H⟩ := H
                  replace H : (if t203 = 0 then ((impl_NumDo.f kj17 10 t202 (Int.tmod (wrap64 (t201)) 32)).bind fun bt204 => (if bt204.2 = 0 then (some (bt204.1 == t191)) else (some false))) else (some (t203 == 1))) = some r := H
                  have A25 := Aside0.mk A250
                  clear A250
                  by_cases c26 : t203 = 0
                  · rw [if_pos c26] at H
                    have c26b0 : (t203 == 0) = true := beq_iff_eq.mpr c26
                    have c26b1 : (t203 != 0) = false := bne_eq_false_iff_eq.mpr c26
                    clear c26
                    replace H := Option.bind_eq_some_iff.mp H
                    obtain ⟨⟨t204, t205⟩, A270, H⟩ := H
                    replace H : (if t205 = 0 then (some (t204 == t191)) else (some false)) = some r := H
                    have A27 := Aside0.mk A270
                    clear A270
                    by_cases c28 : t205 = 0
                    · rw [if_pos c28] at H
                      have c28b0 : (t205 == 0) = true := beq_iff_eq.mpr c28
                      have c28b1 : (t205 != 0) = false := bne_eq_false_iff_eq.mpr c28
                      clear c28
                      obtain rfl := Option.some.inj H
                      go_wp2_with (first | ((with_reducible refine gate_callee (f := 38) rfl ?_); refine sqL (some 109) Try.func38 #[.slice A0 l0.length c0, .int .i64 3] ?_; (with_reducible refine (laws_at.calls _ _ l0 3 t201 _ ?side1 ?side2 A24.out).mono ?_); (case side1 => repeat (first | exact (Kd.C_below HR0.out HB.out) | (with_reducible refine Kd.C_alloc ?_ _) | (with_reducible refine Kd.C_drewN ?_ _) | (with_reducible refine Kd.C_drew ?_))); (case side2 => exact HC0.out); rintro e w' ⟨rfl, ⟨nd, rfl⟩⟩; refine ⟨_, rfl, ?_⟩) | ((with_reducible refine gate_callee (f := 35) rfl ?_); refine sqL (some 115) Try.func35 #[.int .i64 9, .int .i64 t191, .int .i64 (Int.tmod (wrap64 (t201)) 32)] ?_; (with_reducible refine (impl_NumDo.calls kj17 9 t191 (Int.tmod (wrap64 (t201)) 32) t202 t203 _ A25.out).mono ?_); rintro e w' ⟨rfl, ⟨nd, rfl⟩⟩; refine ⟨_, rfl, ?_⟩) | ((with_reducible refine gate_callee (f := 35) rfl ?_); refine sqL (some 125) Try.func35 #[.int .i64 10, .int .i64 t202, .int .i64 (Int.tmod (wrap64 (t201)) 32)] ?_; (with_reducible refine (impl_NumDo.calls kj17 10 t202 (Int.tmod (wrap64 (t201)) 32) t204 t205 _ A27.out).mono ?_); rintro e w' ⟨rfl, ⟨nd, rfl⟩⟩; refine ⟨_, rfl, ?_⟩))
                      go_ret
                      exact sqe HB
                    · rw [if_neg c28] at H
                      have c28b0 : (t205 == 0) = false := beq_eq_false_iff_ne.mpr c28
                      have c28b1 : (t205 != 0) = true := bne_iff_ne.mpr c28
                      obtain rfl := Option.some.inj H
                      go_wp2_with (first | ((with_reducible refine gate_callee (f := 38) rfl ?_); refine sqL (some 109) Try.func38 #[.slice A0 l0.length c0, .int .i64 3] ?_; (with_reducible refine (laws_at.calls _ _ l0 3 t201 _ ?side1 ?side2 A24.out).mono ?_); (case side1 => repeat (first | exact (Kd.C_below HR0.out HB.out) | (with_reducible refine Kd.C_alloc ?_ _) | (with_reducible refine Kd.C_drewN ?_ _) | (with_reducible refine Kd.C_drew ?_))); (case side2 => exact HC0.out); rintro e w' ⟨rfl, ⟨nd, rfl⟩⟩; refine ⟨_, rfl, ?_⟩) | ((with_reducible refine gate_callee (f := 35) rfl ?_); refine sqL (some 115) Try.func35 #[.int .i64 9, .int .i64 t191, .int .i64 (Int.tmod (wrap64 (t201)) 32)] ?_; (with_reducible refine (impl_NumDo.calls kj17 9 t191 (Int.tmod (wrap64 (t201)) 32) t202 t203 _ A25.out).mono ?_); rintro e w' ⟨rfl, ⟨nd, rfl⟩⟩; refine ⟨_, rfl, ?_⟩) | ((with_reducible refine gate_callee (f := 35) rfl ?_); refine sqL (some 125) Try.func35 #[.int .i64 10, .int .i64 t202, .int .i64 (Int.tmod (wrap64 (t201)) 32)] ?_; (with_reducible refine (impl_NumDo.calls kj17 10 t202 (Int.tmod (wrap64 (t201)) 32) t204 t205 _ A27.out).mono ?_); rintro e w' ⟨rfl, ⟨nd, rfl⟩⟩; refine ⟨_, rfl, ?_⟩))
                      go_ret
                      exact sqe HB
                  · rw [if_neg c26] at H
                    have c26b0 : (t203 == 0) = false := beq_eq_false_iff_ne.mpr c26
                    have c26b1 : (t203 != 0) = true := bne_iff_ne.mpr c26
                    obtain rfl := Option.some.inj H
                    go_wp2_with (first | ((with_reducible refine gate_callee (f := 38) rfl ?_); refine sqL (some 109) Try.func38 #[.slice A0 l0.length c0, .int .i64 3] ?_; (with_reducible refine (laws_at.calls _ _ l0 3 t201 _ ?side1 ?side2 A24.out).mono ?_); (case side1 => repeat (first | exact (Kd.C_below HR0.out HB.out) | (with_reducible refine Kd.C_alloc ?_ _) | (with_reducible refine Kd.C_drewN ?_ _) | (with_reducible refine Kd.C_drew ?_))); (case side2 => exact HC0.out); rintro e w' ⟨rfl, ⟨nd, rfl⟩⟩; refine ⟨_, rfl, ?_⟩) | ((with_reducible refine gate_callee (f := 35) rfl ?_); refine sqL (some 115) Try.func35 #[.int .i64 9, .int .i64 t191, .int .i64 (Int.tmod (wrap64 (t201)) 32)] ?_; (with_reducible refine (impl_NumDo.calls kj17 9 t191 (Int.tmod (wrap64 (t201)) 32) t202 t203 _ A25.out).mono ?_); rintro e w' ⟨rfl, ⟨nd, rfl⟩⟩; refine ⟨_, rfl, ?_⟩))
                    go_ret
                    exact sqe HB

/-- THE ONE PURE STATEMENT of laws_FnNumRest: yours. -/
def laws_FnNumRest.Pure : Prop := ∀ (l0 : List Int), l0.length ≤ maxLen → l0.length * 1 ≤ 140737488351232 → (∀ x ∈ l0, (Lit.int .u8 x).wf = true) → ∃ k, laws_FnNumRest.f k l0 = some true
theorem laws_FnNumRest.walk (P : laws_FnNumRest.Pure) (a0 : Option Addr) (len0 cap0 : Nat) (z0 : List Int) (w : World) (w0 : (a0 = none ∧ len0 = 0 ∧ cap0 = 0 ∧ z0 = []) ∨ ∃ x, a0 = some x ∧ len0 ≤ cap0 ∧ cap0 ≤ maxLen ∧ z0.length = cap0 ∧ (∀ i, i < z0.length → w.cell? (x.add i) = some (.int .u8 (z0.getD i 0))) ∧ ∀ n ∈ z0, (Lit.int .u8 n).wf = true) (y0 : len0 * 1 ≤ 140737488351232) :
    Calls Try.prog 10 #[.slice a0 len0 cap0] w fun e w' => e = .returned (.bool true) ∧ Below w.heap.size w w' := by
  obtain ⟨l0, rfl, hr0, hm0, hw0, hc0⟩ := ReadsInt.ofRowC w0
  obtain ⟨k, h⟩ := P l0 hm0 y0 hw0
  refine (laws_FnNumRest.calls k _ _ l0 true w (Kd.C_of_reads (d := (0 : Int)) (h1 := fun _ => rfl) hr0) hc0 h).mono ?_
  rintro e w' ⟨rfl, hd⟩
  exact ⟨rfl, hd⟩

end Go.Proofs.Ytmdcgkkkfncieaa.PFnNumRest
