/- Functions of the program as plain Lean functions, and that calls of them come to what these tell. Conditions: those in each law. -/
import Derived.Test.YtkekcenlleebeaaSq
import Derived.Test.YtkekcenlleebeaaDFnRestDo
import Derived.Test.YtkekcenlleebeaaQFnRestDox0
import Derived.Test.YtkekcenlleebeaaQFnRestDox2
import Derived.Test.YtkekcenlleebeaaQFnRestDox3
namespace Go.Proofs.Ytkekcenlleebeaa.PFnRestDo
open Go.RowKit Go.Proofs.Ytkekcenlleebeaa.Sq Go.Proofs.YtkekcenlleebeaaW.PrintWords Go.Proofs.YtkekcenlleebeaaW.PrintLast Go.Proofs.YtkekcenlleebeaaW.PrintMore
attribute [local go_sem] max2_int min2_int max_two min_two max_three min_three max_four min_four   -- for this text's walks alone
set_option linter.unusedVariables false
set_option linter.unusedSimpArgs false

/-! ### spec_l1Floor: function 206 -/
set_option maxHeartbeats 8000000 in
set_option maxRecDepth 100000 in
theorem spec_l1Floor.calls (a0 : Int) (a1 : Int) (r : Int) (w : World) (h : spec_l1Floor.f a0 a1 = some r) :
    Calls Try.prog 206 #[.int .i64 a0, .int .i64 a1] w fun e w' => e = .returned (.int .i64 r) ∧ Drawn0 w w' := by
  have H : ((spec_l1Mod.f a0 a1).bind fun t290 => (if a1 = 0 then (none) else (some (wrap64 (Int.tdiv (wrap64 (a0 - t290)) a1))))) = some r := h
  clear h
  replace H := Option.bind_eq_some_iff.mp H
  obtain ⟨t290, A30, H⟩ := H
  replace H : (if a1 = 0 then (none) else (some (wrap64 (Int.tdiv (wrap64 (a0 - t290)) a1)))) = some r := H
  have A3 := Aside0.mk A30
  clear A30
  by_cases c4 : a1 = 0
  · rw [if_pos c4] at H
    exact absurd H (by simp)
  · rw [if_neg c4] at H
    have c4b0 : (a1 == 0) = false := beq_eq_false_iff_ne.mpr c4
    have c4b1 : (a1 != 0) = true := bne_iff_ne.mpr c4
    obtain rfl := Option.some.inj H
    go_enter Try.func206, Try.ntmps206
    go_wp2_with (first | ((with_reducible refine gate_callee (f := 102) rfl ?_); refine sqL (some 8) Try.func102 #[.int .i64 a0, .int .i64 a1] ?_; (with_reducible refine (spec_l1Mod.calls a0 a1 t290 _ A3.out).mono ?_); rintro e w' ⟨rfl, ⟨nd, rfl⟩⟩; refine ⟨_, rfl, ?_⟩))
    go_ret
    exact ⟨by first | rfl | (simp; done) | (simp [*]; done), by repeat (first | exact Drawn0.refl _ | apply Drawn0.step)⟩

/-! ### spec_l1Bits: function 207 -/
theorem spec_l1Bits.mono_l : ∀ k, (∀ y0 y1 y2 y3 y4, LeO (spec_l1Bits.l0 k y0 y1 y2 y3 y4) (spec_l1Bits.l0 (k + 1) y0 y1 y2 y3 y4))
  | 0 => fun _ _ _ _ _ r h => by simp [spec_l1Bits.l0] at h
  | k + 1 => by
    have ih0 := spec_l1Bits.mono_l k
    · intro y0 y1 y2 y3 y4
      unfold spec_l1Bits.l0
      repeat' first
      | (with_reducible exact ih0 _ _ _ _ _)
      | (with_reducible exact LeO.refl _)
      | (with_reducible exact LeO.none _)
      | (with_reducible refine LeO.ite ?_ ?_)
      | (with_reducible refine LeO.bind ?_ (fun _ => ?_))
      | exact ih0 _ _ _ _ _
      | exact LeO.none _
      | refine LeO.ite ?_ ?_
      | refine LeO.bind ?_ (fun _ => ?_)
theorem spec_l1Bits.mono : ∀ a0 a1 a2 k, LeO (spec_l1Bits.f k a0 a1 a2) (spec_l1Bits.f (k + 1) a0 a1 a2) := by
  intro a0 a1 a2 k
  have ih0 := spec_l1Bits.mono_l k
  unfold spec_l1Bits.f
  repeat' first
      | (with_reducible exact ih0 _ _ _ _ _)
      | (with_reducible exact LeO.refl _)
      | (with_reducible exact LeO.none _)
      | (with_reducible refine LeO.ite ?_ ?_)
      | (with_reducible refine LeO.bind ?_ (fun _ => ?_))
      | exact ih0 _ _ _ _ _
      | exact LeO.none _
      | refine LeO.ite ?_ ?_
      | refine LeO.bind ?_ (fun _ => ?_)
set_option maxHeartbeats 8000000 in
set_option maxRecDepth 100000 in
theorem spec_l1Bits.calls (k : Nat) (a0 : Int) (a1 : Int) (a2 : Int) (r : Int) (w : World) (h : spec_l1Bits.f k a0 a1 a2 = some r) :
    Calls Try.prog 207 #[.int .i64 a0, .int .i64 a1, .int .i64 a2] w fun e w' => e = .returned (.int .i64 r) ∧ Drawn0 w w' := by
  have H : (spec_l1Bits.l0 k a0 a1 a2 0 0) = some r := h
  clear h
  have H' := Aside0.mk H
  clear H
  go_enter Try.func207, Try.ntmps207
  go_wp2
  go_loopg [7, 8] k (fun kq v7 v8 w' => ∃ (x7_1 : Int) (x8_1 : Int), v7 = .int .i64 x7_1 ∧ v8 = .int .i64 x8_1 ∧ Aside0 (spec_l1Bits.l0 kq a0 a1 a2 x7_1 x8_1 = some r) ∧ Aside0 (kq ≤ k) ∧ Drawn0 w w')
  case atStart => exact ⟨(0), (0), (by first | rfl | (simp; done) | (simp [*]; done)), (by first | rfl | (simp; done) | (simp [*]; done)), H', ⟨Nat.le_refl _⟩, by repeat (first | exact Drawn0.refl _ | apply Drawn0.step)⟩
  case round =>
    clear H'
    try clear c2
    try clear p2
    obtain ⟨x7_1, x8_1, rfl, rfl, HA, HK1, ⟨m1, rfl⟩⟩ := hrel
    cases gk with
    | zero => exact absurd HA.out (by simp [spec_l1Bits.l0])
    | succ k1 =>
      have H := HA.out
      clear HA
      simp only [spec_l1Bits.l0] at H
      by_cases c4 : x8_1 < 32
      · rw [if_pos c4] at H
        have c4b0 : decide (x8_1 < 32) = true := decide_eq_true c4
        clear c4
        replace H := Option.bind_eq_some_iff.mp H
        obtain ⟨t292, A50, H⟩ := H
        replace H : (if 0 ≤ (IntKind.u64.wrap (x8_1)) then ((spec_l1Mod.f a2 4294967296).bind fun t293 => (if a0 = 7 then (if a0 = 8 then (spec_l1Bits.l0 k1 a0 a1 a2 (wrap64 (x7_1 + (shl .i64 (Int.tmod (wrap64 ((Int.tmod (shr .i64 t292 (IntKind.u64.wrap (x8_1))) 2) + (Int.tmod (shr .i64 t293 (IntKind.u64.wrap (x8_1))) 2))) 2) (IntKind.u64.wrap (x8_1))))) (wrap64 (x8_1 + 1))) else (spec_l1Bits.l0 k1 a0 a1 a2 (wrap64 (x7_1 + (shl .i64 (wrap64 ((wrap64 ((Int.tmod (shr .i64 t292 (IntKind.u64.wrap (x8_1))) 2) + (Int.tmod (shr .i64 t293 (IntKind.u64.wrap (x8_1))) 2))) - (wrap64 ((Int.tmod (shr .i64 t292 (IntKind.u64.wrap (x8_1))) 2) * (Int.tmod (shr .i64 t293 (IntKind.u64.wrap (x8_1))) 2))))) (IntKind.u64.wrap (x8_1))))) (wrap64 (x8_1 + 1)))) else (if a0 = 8 then (spec_l1Bits.l0 k1 a0 a1 a2 (wrap64 (x7_1 + (shl .i64 (Int.tmod (wrap64 ((Int.tmod (shr .i64 t292 (IntKind.u64.wrap (x8_1))) 2) + (Int.tmod (shr .i64 t293 (IntKind.u64.wrap (x8_1))) 2))) 2) (IntKind.u64.wrap (x8_1))))) (wrap64 (x8_1 + 1))) else (spec_l1Bits.l0 k1 a0 a1 a2 (wrap64 (x7_1 + (shl .i64 (wrap64 ((Int.tmod (shr .i64 t292 (IntKind.u64.wrap (x8_1))) 2) * (Int.tmod (shr .i64 t293 (IntKind.u64.wrap (x8_1))) 2))) (IntKind.u64.wrap (x8_1))))) (wrap64 (x8_1 + 1)))))) else (none)) = some r := H
        have A5 := Aside0.mk A50
        clear A50
        obtain ⟨ji6, hji6⟩ : ∃ j_ : Int, (IntKind.u64.wrap (x8_1)) = j_ := ⟨_, rfl⟩
        replace H : (if 0 ≤ (ji6) then ((spec_l1Mod.f a2 4294967296).bind fun t293 => (if a0 = 7 then (if a0 = 8 then (spec_l1Bits.l0 k1 a0 a1 a2 (wrap64 (x7_1 + (shl .i64 (Int.tmod (wrap64 ((Int.tmod (shr .i64 t292 (ji6)) 2) + (Int.tmod (shr .i64 t293 (ji6)) 2))) 2) (ji6)))) (wrap64 (x8_1 + 1))) else (spec_l1Bits.l0 k1 a0 a1 a2 (wrap64 (x7_1 + (shl .i64 (wrap64 ((wrap64 ((Int.tmod (shr .i64 t292 (ji6)) 2) + (Int.tmod (shr .i64 t293 (ji6)) 2))) - (wrap64 ((Int.tmod (shr .i64 t292 (ji6)) 2) * (Int.tmod (shr .i64 t293 (ji6)) 2))))) (ji6)))) (wrap64 (x8_1 + 1)))) else (if a0 = 8 then (spec_l1Bits.l0 k1 a0 a1 a2 (wrap64 (x7_1 + (shl .i64 (Int.tmod (wrap64 ((Int.tmod (shr .i64 t292 (ji6)) 2) + (Int.tmod (shr .i64 t293 (ji6)) 2))) 2) (ji6)))) (wrap64 (x8_1 + 1))) else (spec_l1Bits.l0 k1 a0 a1 a2 (wrap64 (x7_1 + (shl .i64 (wrap64 ((Int.tmod (shr .i64 t292 (ji6)) 2) * (Int.tmod (shr .i64 t293 (ji6)) 2))) (ji6)))) (wrap64 (x8_1 + 1)))))) else (none)) = some r := by first | (rw [hji6] at H; exact H) | (simp only [hji6] at H ⊢; exact H)
        (try rw [hji6] at A5)
        by_cases c7 : 0 ≤ (ji6)
        · rw [if_pos c7] at H
          have c7b0 := eq_true c7
          have c7b1 : decide (0 ≤ (ji6)) = true := decide_eq_true c7
          clear c7
          obtain ⟨ji8, hji8⟩ : ∃ j_ : Int, (shr .i64 t292 (ji6)) = j_ := ⟨_, rfl⟩
          replace H : ((spec_l1Mod.f a2 4294967296).bind fun t293 => (if a0 = 7 then (if a0 = 8 then (spec_l1Bits.l0 k1 a0 a1 a2 (wrap64 (x7_1 + (shl .i64 (Int.tmod (wrap64 ((Int.tmod (ji8) 2) + (Int.tmod (shr .i64 t293 (ji6)) 2))) 2) (ji6)))) (wrap64 (x8_1 + 1))) else (spec_l1Bits.l0 k1 a0 a1 a2 (wrap64 (x7_1 + (shl .i64 (wrap64 ((wrap64 ((Int.tmod (ji8) 2) + (Int.tmod (shr .i64 t293 (ji6)) 2))) - (wrap64 ((Int.tmod (ji8) 2) * (Int.tmod (shr .i64 t293 (ji6)) 2))))) (ji6)))) (wrap64 (x8_1 + 1)))) else (if a0 = 8 then (spec_l1Bits.l0 k1 a0 a1 a2 (wrap64 (x7_1 + (shl .i64 (Int.tmod (wrap64 ((Int.tmod (ji8) 2) + (Int.tmod (shr .i64 t293 (ji6)) 2))) 2) (ji6)))) (wrap64 (x8_1 + 1))) else (spec_l1Bits.l0 k1 a0 a1 a2 (wrap64 (x7_1 + (shl .i64 (wrap64 ((Int.tmod (ji8) 2) * (Int.tmod (shr .i64 t293 (ji6)) 2))) (ji6)))) (wrap64 (x8_1 + 1)))))) = some r := by first | (rw [hji8] at H; exact H) | (simp only [hji8] at H ⊢; exact H)
          (try rw [hji8] at A5)
          have hji8_ : (t292 / 2 ^ min (ji6).toNat 64) = ji8 := hji8
          have hji8z : (ji6) ≤ 64 → (t292 / 2 ^ (ji6).toNat) = ji8 := shr_small hji8
          replace H := Option.bind_eq_some_iff.mp H
          obtain ⟨t293, A90, H⟩ := H
          replace H : (if a0 = 7 then (if a0 = 8 then (spec_l1Bits.l0 k1 a0 a1 a2 (wrap64 (x7_1 + (shl .i64 (Int.tmod (wrap64 ((Int.tmod (ji8) 2) + (Int.tmod (shr .i64 t293 (ji6)) 2))) 2) (ji6)))) (wrap64 (x8_1 + 1))) else (spec_l1Bits.l0 k1 a0 a1 a2 (wrap64 (x7_1 + (shl .i64 (wrap64 ((wrap64 ((Int.tmod (ji8) 2) + (Int.tmod (shr .i64 t293 (ji6)) 2))) - (wrap64 ((Int.tmod (ji8) 2) * (Int.tmod (shr .i64 t293 (ji6)) 2))))) (ji6)))) (wrap64 (x8_1 + 1)))) else (if a0 = 8 then (spec_l1Bits.l0 k1 a0 a1 a2 (wrap64 (x7_1 + (shl .i64 (Int.tmod (wrap64 ((Int.tmod (ji8) 2) + (Int.tmod (shr .i64 t293 (ji6)) 2))) 2) (ji6)))) (wrap64 (x8_1 + 1))) else (spec_l1Bits.l0 k1 a0 a1 a2 (wrap64 (x7_1 + (shl .i64 (wrap64 ((Int.tmod (ji8) 2) * (Int.tmod (shr .i64 t293 (ji6)) 2))) (ji6)))) (wrap64 (x8_1 + 1))))) = some r := H
          have A9 := Aside0.mk A90
          clear A90
          have c10b0 := eq_true (of_decide_eq_true (by first | (with_reducible assumption) | assumption) : 0 ≤ (ji6))
          obtain ⟨ji11, hji11⟩ : ∃ j_ : Int, (shr .i64 t293 (ji6)) = j_ := ⟨_, rfl⟩
          replace H : (if a0 = 7 then (if a0 = 8 then (spec_l1Bits.l0 k1 a0 a1 a2 (wrap64 (x7_1 + (shl .i64 (Int.tmod (wrap64 ((Int.tmod (ji8) 2) + (Int.tmod (ji11) 2))) 2) (ji6)))) (wrap64 (x8_1 + 1))) else (spec_l1Bits.l0 k1 a0 a1 a2 (wrap64 (x7_1 + (shl .i64 (wrap64 ((wrap64 ((Int.tmod (ji8) 2) + (Int.tmod (ji11) 2))) - (wrap64 ((Int.tmod (ji8) 2) * (Int.tmod (ji11) 2))))) (ji6)))) (wrap64 (x8_1 + 1)))) else (if a0 = 8 then (spec_l1Bits.l0 k1 a0 a1 a2 (wrap64 (x7_1 + (shl .i64 (Int.tmod (wrap64 ((Int.tmod (ji8) 2) + (Int.tmod (ji11) 2))) 2) (ji6)))) (wrap64 (x8_1 + 1))) else (spec_l1Bits.l0 k1 a0 a1 a2 (wrap64 (x7_1 + (shl .i64 (wrap64 ((Int.tmod (ji8) 2) * (Int.tmod (ji11) 2))) (ji6)))) (wrap64 (x8_1 + 1))))) = some r := by first | (rw [hji11] at H; exact H) | (simp only [hji11] at H ⊢; exact H)
          (try rw [hji11] at A5)
          (try rw [hji11] at A9)
          have hji11_ : (t293 / 2 ^ min (ji6).toNat 64) = ji11 := hji11
          have hji11z : (ji6) ≤ 64 → (t293 / 2 ^ (ji6).toNat) = ji11 := shr_small hji11
          by_cases c12 : a0 = 7
          · rw [if_pos c12] at H
            have c12b0 : (a0 == 7) = true := beq_iff_eq.mpr c12
            have c12b1 : (a0 != 7) = false := bne_eq_false_iff_eq.mpr c12
            clear c12
            by_cases c13 : a0 = 8
            · rw [if_pos c13] at H
              have c13b0 : (a0 == 8) = true := beq_iff_eq.mpr c13
              exact absurd ((beq_iff_eq.mp c12b0).symm.trans (beq_iff_eq.mp c13b0)) (by decide)
            · rw [if_neg c13] at H
              have c13b0 : (a0 == 8) = false := beq_eq_false_iff_ne.mpr c13
              have c13b1 : (a0 != 8) = true := bne_iff_ne.mpr c13
              have c16b0 := eq_true (of_decide_eq_true (by first | (with_reducible assumption) | assumption) : 0 ≤ (ji6))
              obtain ⟨ji17, hji17⟩ : ∃ j_ : Int, (shl .i64 (wrap64 ((wrap64 ((Int.tmod (ji8) 2) + (Int.tmod (ji11) 2))) - (wrap64 ((Int.tmod (ji8) 2) * (Int.tmod (ji11) 2))))) (ji6)) = j_ := ⟨_, rfl⟩
              replace H : (spec_l1Bits.l0 k1 a0 a1 a2 (wrap64 (x7_1 + (ji17))) (wrap64 (x8_1 + 1))) = some r := by first | (rw [hji17] at H; exact H) | (simp only [hji17] at H ⊢; exact H)
              (try rw [hji17] at A5)
              (try rw [hji17] at A9)
              have hji17_ : (IntKind.i64.wrap ((wrap64 ((wrap64 ((Int.tmod (ji8) 2) + (Int.tmod (ji11) 2))) - (wrap64 ((Int.tmod (ji8) 2) * (Int.tmod (ji11) 2))))) * 2 ^ min (ji6).toNat 64)) = ji17 := hji17
              have hji17z : (ji6) ≤ 64 → (IntKind.i64.wrap ((wrap64 ((wrap64 ((Int.tmod (ji8) 2) + (Int.tmod (ji11) 2))) - (wrap64 ((Int.tmod (ji8) 2) * (Int.tmod (ji11) 2))))) * 2 ^ (ji6).toNat)) = ji17 := shl_small hji17
              have hji17y : (wrap64 ((wrap64 ((wrap64 ((Int.tmod (ji8) 2) + (Int.tmod (ji11) 2))) - (wrap64 ((Int.tmod (ji8) 2) * (Int.tmod (ji11) 2))))) * 2 ^ min (ji6).toNat 64)) = ji17 := (i64_w _).symm.trans hji17_
              have hji17x : (ji6) ≤ 64 → (wrap64 ((wrap64 ((wrap64 ((Int.tmod (ji8) 2) + (Int.tmod (ji11) 2))) - (wrap64 ((Int.tmod (ji8) 2) * (Int.tmod (ji11) 2))))) * 2 ^ (ji6).toNat)) = ji17 := fun h_ => (i64_w _).symm.trans (hji17z h_)
              have H' := Aside0.mk H
              clear H
              go_wp2_with (first | ((with_reducible refine gate_callee (f := 102) rfl ?_); refine sqL (some 17) Try.func102 #[.int .i64 a1, .int .i64 4294967296] ?_; (with_reducible refine (spec_l1Mod.calls a1 4294967296 t292 _ A5.out).mono ?_); rintro e w' ⟨rfl, ⟨nd, rfl⟩⟩; refine ⟨_, rfl, ?_⟩) | ((with_reducible refine gate_callee (f := 102) rfl ?_); refine sqL (some 23) Try.func102 #[.int .i64 a2, .int .i64 4294967296] ?_; (with_reducible refine (spec_l1Mod.calls a2 4294967296 t293 _ A9.out).mono ?_); rintro e w' ⟨rfl, ⟨nd, rfl⟩⟩; refine ⟨_, rfl, ?_⟩))
              go_roundg k1
              case measure => have := HK1.out; omega
              case rel => exact ⟨(wrap64 (x7_1 + (ji17))), (wrap64 (x8_1 + 1)), (by first | rfl | (simp; done) | (simp only [← hji17] <;> (first | rfl | simp)) | (simp [*]; done)), (by first | rfl | (simp; done) | (simp [*]; done)), H', ⟨by have := HK1.out; omega⟩, by repeat (first | exact Drawn0.refl _ | apply Drawn0.step)⟩
          · rw [if_neg c12] at H
            have c12b0 : (a0 == 7) = false := beq_eq_false_iff_ne.mpr c12
            have c12b1 : (a0 != 7) = true := bne_iff_ne.mpr c12
            by_cases c18 : a0 = 8
            · rw [if_pos c18] at H
              have c18b0 : (a0 == 8) = true := beq_iff_eq.mpr c18
              have c18b1 : (a0 != 8) = false := bne_eq_false_iff_eq.mpr c18
              clear c18
              have c19b0 := eq_true (of_decide_eq_true (by first | (with_reducible assumption) | assumption) : 0 ≤ (ji6))
              obtain ⟨ji20, hji20⟩ : ∃ j_ : Int, (shl .i64 (Int.tmod (wrap64 ((Int.tmod (ji8) 2) + (Int.tmod (ji11) 2))) 2) (ji6)) = j_ := ⟨_, rfl⟩
              replace H : (spec_l1Bits.l0 k1 a0 a1 a2 (wrap64 (x7_1 + (ji20))) (wrap64 (x8_1 + 1))) = some r := by first | (rw [hji20] at H; exact H) | (simp only [hji20] at H ⊢; exact H)
              (try rw [hji20] at A5)
              (try rw [hji20] at A9)
              have hji20_ : (IntKind.i64.wrap ((Int.tmod (wrap64 ((Int.tmod (ji8) 2) + (Int.tmod (ji11) 2))) 2) * 2 ^ min (ji6).toNat 64)) = ji20 := hji20
              have hji20z : (ji6) ≤ 64 → (IntKind.i64.wrap ((Int.tmod (wrap64 ((Int.tmod (ji8) 2) + (Int.tmod (ji11) 2))) 2) * 2 ^ (ji6).toNat)) = ji20 := shl_small hji20
              have hji20y : (wrap64 ((Int.tmod (wrap64 ((Int.tmod (ji8) 2) + (Int.tmod (ji11) 2))) 2) * 2 ^ min (ji6).toNat 64)) = ji20 := (i64_w _).symm.trans hji20_
              have hji20x : (ji6) ≤ 64 → (wrap64 ((Int.tmod (wrap64 ((Int.tmod (ji8) 2) + (Int.tmod (ji11) 2))) 2) * 2 ^ (ji6).toNat)) = ji20 := fun h_ => (i64_w _).symm.trans (hji20z h_)
              have H' := Aside0.mk H
              clear H
              go_wp2_with (first | ((with_reducible refine gate_callee (f := 102) rfl ?_); refine sqL (some 17) Try.func102 #[.int .i64 a1, .int .i64 4294967296] ?_; (with_reducible refine (spec_l1Mod.calls a1 4294967296 t292 _ A5.out).mono ?_); rintro e w' ⟨rfl, ⟨nd, rfl⟩⟩; refine ⟨_, rfl, ?_⟩) | ((with_reducible refine gate_callee (f := 102) rfl ?_); refine sqL (some 23) Try.func102 #[.int .i64 a2, .int .i64 4294967296] ?_; (with_reducible refine (spec_l1Mod.calls a2 4294967296 t293 _ A9.out).mono ?_); rintro e w' ⟨rfl, ⟨nd, rfl⟩⟩; refine ⟨_, rfl, ?_⟩))
              go_roundg k1
              case measure => have := HK1.out; omega
              case rel => exact ⟨(wrap64 (x7_1 + (ji20))), (wrap64 (x8_1 + 1)), (by first | rfl | (simp; done) | (simp only [← hji20] <;> (first | rfl | simp)) | (simp [*]; done)), (by first | rfl | (simp; done) | (simp [*]; done)), H', ⟨by have := HK1.out; omega⟩, by repeat (first | exact Drawn0.refl _ | apply Drawn0.step)⟩
            · rw [if_neg c18] at H
              have c18b0 : (a0 == 8) = false := beq_eq_false_iff_ne.mpr c18
              have c18b1 : (a0 != 8) = true := bne_iff_ne.mpr c18
              have c21b0 := eq_true (of_decide_eq_true (by first | (with_reducible assumption) | assumption) : 0 ≤ (ji6))
              obtain ⟨ji22, hji22⟩ : ∃ j_ : Int, (shl .i64 (wrap64 ((Int.tmod (ji8) 2) * (Int.tmod (ji11) 2))) (ji6)) = j_ := ⟨_, rfl⟩
              replace H : (spec_l1Bits.l0 k1 a0 a1 a2 (wrap64 (x7_1 + (ji22))) (wrap64 (x8_1 + 1))) = some r := by first | (rw [hji22] at H; exact H) | (simp only [hji22] at H ⊢; exact H)
              (try rw [hji22] at A5)
              (try rw [hji22] at A9)
              have hji22_ : (IntKind.i64.wrap ((wrap64 ((Int.tmod (ji8) 2) * (Int.tmod (ji11) 2))) * 2 ^ min (ji6).toNat 64)) = ji22 := hji22
              have hji22z : (ji6) ≤ 64 → (IntKind.i64.wrap ((wrap64 ((Int.tmod (ji8) 2) * (Int.tmod (ji11) 2))) * 2 ^ (ji6).toNat)) = ji22 := shl_small hji22
              have hji22y : (wrap64 ((wrap64 ((Int.tmod (ji8) 2) * (Int.tmod (ji11) 2))) * 2 ^ min (ji6).toNat 64)) = ji22 := (i64_w _).symm.trans hji22_
              have hji22x : (ji6) ≤ 64 → (wrap64 ((wrap64 ((Int.tmod (ji8) 2) * (Int.tmod (ji11) 2))) * 2 ^ (ji6).toNat)) = ji22 := fun h_ => (i64_w _).symm.trans (hji22z h_)
              have H' := Aside0.mk H
              clear H
              go_wp2_with (first | ((with_reducible refine gate_callee (f := 102) rfl ?_); refine sqL (some 17) Try.func102 #[.int .i64 a1, .int .i64 4294967296] ?_; (with_reducible refine (spec_l1Mod.calls a1 4294967296 t292 _ A5.out).mono ?_); rintro e w' ⟨rfl, ⟨nd, rfl⟩⟩; refine ⟨_, rfl, ?_⟩) | ((with_reducible refine gate_callee (f := 102) rfl ?_); refine sqL (some 23) Try.func102 #[.int .i64 a2, .int .i64 4294967296] ?_; (with_reducible refine (spec_l1Mod.calls a2 4294967296 t293 _ A9.out).mono ?_); rintro e w' ⟨rfl, ⟨nd, rfl⟩⟩; refine ⟨_, rfl, ?_⟩))
              go_roundg k1
              case measure => have := HK1.out; omega
              case rel => exact ⟨(wrap64 (x7_1 + (ji22))), (wrap64 (x8_1 + 1)), (by first | rfl | (simp; done) | (simp only [← hji22] <;> (first | rfl | simp)) | (simp [*]; done)), (by first | rfl | (simp; done) | (simp [*]; done)), H', ⟨by have := HK1.out; omega⟩, by repeat (first | exact Drawn0.refl _ | apply Drawn0.step)⟩
        · rw [if_neg c7] at H
          exact absurd H (by simp)
      · rw [if_neg c4] at H
        have c4b0 : decide (x8_1 < 32) = false := decide_eq_false c4
        clear c4
        replace H := Option.bind_eq_some_iff.mp H
        obtain ⟨t291, A230, H⟩ := H
        replace H : (some t291) = some r := H
        have A23 := Aside0.mk A230
        clear A230
        obtain rfl := Option.some.inj H
        go_wp2_with (first | ((with_reducible refine gate_callee (f := 54) rfl ?_); refine sqL (some 53) Try.func54 #[.int .i64 x7_1] ?_; (with_reducible refine (spec_NumWrap.calls x7_1 t291 _ A23.out).mono ?_); rintro e w' ⟨rfl, ⟨nd, rfl⟩⟩; refine ⟨_, rfl, ?_⟩))
        go_ret
        exact ⟨by first | rfl | (simp; done) | (simp [*]; done), by repeat (first | exact Drawn0.refl _ | apply Drawn0.step)⟩

/-! ### spec_l1Exact: function 158 -/
theorem spec_l1Exact.mono_l : ∀ k, (∀ y0 y1 y2 y3, LeO (spec_l1Exact.j0 k y0 y1 y2 y3) (spec_l1Exact.j0 (k + 1) y0 y1 y2 y3)) ∧ (∀ y0 y1 y2 y3, LeO (spec_l1Exact.j1 k y0 y1 y2 y3) (spec_l1Exact.j1 (k + 1) y0 y1 y2 y3)) ∧ (∀ y0 y1 y2 y3, LeO (spec_l1Exact.j2 k y0 y1 y2 y3) (spec_l1Exact.j2 (k + 1) y0 y1 y2 y3))
  | 0 => ⟨fun _ _ _ _ r h => by simp [spec_l1Exact.j0] at h, fun _ _ _ _ r h => by simp [spec_l1Exact.j1] at h, fun _ _ _ _ r h => by simp [spec_l1Exact.j2] at h⟩
  | k + 1 => by
    obtain ⟨ih0, ih1, ih2⟩ := spec_l1Exact.mono_l k
    refine ⟨?_, ?_, ?_⟩
    · intro y0 y1 y2 y3
      unfold spec_l1Exact.j0
      repeat' first
      | (with_reducible exact ih0 _ _ _ _)
      | (with_reducible exact ih1 _ _ _ _)
      | (with_reducible exact ih2 _ _ _ _)
      | (with_reducible exact spec_l1Bits.mono _ _ _ _)
      | (with_reducible exact spec_l1Power.mono _ _)
      | (with_reducible exact LeO.refl _)
      | (with_reducible exact LeO.none _)
      | (with_reducible refine LeO.ite ?_ ?_)
      | (with_reducible refine LeO.bind ?_ (fun _ => ?_))
      | exact ih0 _ _ _ _
      | exact ih1 _ _ _ _
      | exact ih2 _ _ _ _
      | exact spec_l1Bits.mono _ _ _ _
      | exact spec_l1Power.mono _ _
      | exact LeO.none _
      | refine LeO.ite ?_ ?_
      | refine LeO.bind ?_ (fun _ => ?_)
    · intro y0 y1 y2 y3
      unfold spec_l1Exact.j1
      repeat' first
      | (with_reducible exact ih0 _ _ _ _)
      | (with_reducible exact ih1 _ _ _ _)
      | (with_reducible exact ih2 _ _ _ _)
      | (with_reducible exact spec_l1Bits.mono _ _ _ _)
      | (with_reducible exact spec_l1Power.mono _ _)
      | (with_reducible exact LeO.refl _)
      | (with_reducible exact LeO.none _)
      | (with_reducible refine LeO.ite ?_ ?_)
      | (with_reducible refine LeO.bind ?_ (fun _ => ?_))
      | exact ih0 _ _ _ _
      | exact ih1 _ _ _ _
      | exact ih2 _ _ _ _
      | exact spec_l1Bits.mono _ _ _ _
      | exact spec_l1Power.mono _ _
      | exact LeO.none _
      | refine LeO.ite ?_ ?_
      | refine LeO.bind ?_ (fun _ => ?_)
    · intro y0 y1 y2 y3
      unfold spec_l1Exact.j2
      repeat' first
      | (with_reducible exact ih0 _ _ _ _)
      | (with_reducible exact ih1 _ _ _ _)
      | (with_reducible exact ih2 _ _ _ _)
      | (with_reducible exact spec_l1Bits.mono _ _ _ _)
      | (with_reducible exact spec_l1Power.mono _ _)
      | (with_reducible exact LeO.refl _)
      | (with_reducible exact LeO.none _)
      | (with_reducible refine LeO.ite ?_ ?_)
      | (with_reducible refine LeO.bind ?_ (fun _ => ?_))
      | exact ih0 _ _ _ _
      | exact ih1 _ _ _ _
      | exact ih2 _ _ _ _
      | exact spec_l1Bits.mono _ _ _ _
      | exact spec_l1Power.mono _ _
      | exact LeO.none _
      | refine LeO.ite ?_ ?_
      | refine LeO.bind ?_ (fun _ => ?_)
theorem spec_l1Exact.mono : ∀ a0 a1 a2 k, LeO (spec_l1Exact.f k a0 a1 a2) (spec_l1Exact.f (k + 1) a0 a1 a2) := by
  intro a0 a1 a2 k
  obtain ⟨ih0, ih1, ih2⟩ := spec_l1Exact.mono_l k
  unfold spec_l1Exact.f
  repeat' first
      | (with_reducible exact ih0 _ _ _ _)
      | (with_reducible exact ih1 _ _ _ _)
      | (with_reducible exact ih2 _ _ _ _)
      | (with_reducible exact spec_l1Bits.mono _ _ _ _)
      | (with_reducible exact spec_l1Power.mono _ _)
      | (with_reducible exact LeO.refl _)
      | (with_reducible exact LeO.none _)
      | (with_reducible refine LeO.ite ?_ ?_)
      | (with_reducible refine LeO.bind ?_ (fun _ => ?_))
      | exact ih0 _ _ _ _
      | exact ih1 _ _ _ _
      | exact ih2 _ _ _ _
      | exact spec_l1Bits.mono _ _ _ _
      | exact spec_l1Power.mono _ _
      | exact LeO.none _
      | refine LeO.ite ?_ ?_
      | refine LeO.bind ?_ (fun _ => ?_)
set_option maxHeartbeats 8000000 in
set_option maxRecDepth 100000 in
theorem spec_l1Exact.calls (k : Nat) (a0 : Int) (a1 : Int) (a2 : Int) (r : Int) (w : World) (h : spec_l1Exact.f k a0 a1 a2 = some r) :
    Calls Try.prog 158 #[.int .i64 a0, .int .i64 a1, .int .i64 a2] w fun e w' => e = .returned (.int .i64 r) ∧ Drawn0 w w' := by
  have H : (if a0 = 1 then (spec_l1Exact.j0 k a0 a1 a2 true) else (spec_l1Exact.j0 k a0 a1 a2 (a0 == 11))) = some r := h
  clear h
  have HC4 := Aside0.mk H
  clear H
  go_enter Try.func158, Try.ntmps158
  go_upto_region 1 with (fail)
  go_cut [12] (fun v12 wc => ∃ (kq : Nat) (x12_3 : Bool), v12 = .bool x12_3 ∧ Aside0 (spec_l1Exact.j0 kq a0 a1 a2 x12_3 = some r) ∧ Aside0 (kq ≤ k) ∧ Drawn0 w wc)
  case first =>
    have H := HC4.out
    clear HC4
    by_cases c5 : a0 = 1
    · rw [if_pos c5] at H
      have c5b0 : (a0 == 1) = true := beq_iff_eq.mpr c5
      have c5b1 : (a0 != 1) = false := bne_eq_false_iff_eq.mpr c5
      clear c5
      (first | rw [c5b0] | (simp only [i64_w, i32_w]; rw [c5b0]) | skip)
      have H' := Aside0.mk H
      clear H
      go_wp2
      go_meet
      case rel => exact ⟨_, (true), (by first | rfl | (simp; done) | (simp [*]; done)), H', ⟨by first | omega | exact Nat.le_refl _⟩, by repeat (first | exact Drawn0.refl _ | apply Drawn0.step)⟩
    · rw [if_neg c5] at H
      have c5b0 : (a0 == 1) = false := beq_eq_false_iff_ne.mpr c5
      have c5b1 : (a0 != 1) = true := bne_iff_ne.mpr c5
      (first | rw [c5b0] | (simp only [i64_w, i32_w]; rw [c5b0]) | skip)
      have H' := Aside0.mk H
      clear H
      go_wp2
      go_meet
      case rel => exact ⟨_, ((a0 == 11)), (by first | rfl | (simp; done) | (simp [*]; done)), H', ⟨by first | omega | exact Nat.le_refl _⟩, by repeat (first | exact Drawn0.refl _ | apply Drawn0.step)⟩
  case rest =>
    clear HC4
    obtain ⟨kq, x12_3, rfl, HA, HJ3, ⟨mc3, rfl⟩⟩ := hcut
    cases kq with
    | zero => exact absurd HA.out (by simp [spec_l1Exact.j0])
    | succ kj3 =>
      have H := HA.out
      clear HA
      simp only [spec_l1Exact.j0] at H
      by_cases c6 : x12_3 = true
      · subst c6
        have H1 : (some (wrap64 (a1 + a2))) = some r := by rw [if_pos rfl] at H; exact H
        clear H
        have H := H1
        clear H1
        obtain rfl := Option.some.inj H
        go_wp2
        go_ret
        exact ⟨by first | rfl | (simp; done) | (simp [*]; done), by repeat (first | exact Drawn0.refl _ | apply Drawn0.step)⟩
      · replace c6 := Bool.eq_false_iff.mpr c6
        subst c6
        have H1 : (if a0 = 2 then (spec_l1Exact.j1 kj3 a0 a1 a2 true) else (spec_l1Exact.j1 kj3 a0 a1 a2 (a0 == 12))) = some r := by rw [if_neg (show ¬ (false = true) by decide)] at H; exact H
        clear H
        have H := H1
        clear H1
        have HC7 := Aside0.mk H
        clear H
        go_upto_region 3 with (fail)
        go_cut [21] (fun v21 wc => ∃ (kq : Nat) (x21_6 : Bool), v21 = .bool x21_6 ∧ Aside0 (spec_l1Exact.j1 kq a0 a1 a2 x21_6 = some r) ∧ Aside0 (kq ≤ kj3) ∧ Drawn0 w wc)
        case first =>
          have H := HC7.out
          clear HC7
          by_cases c8 : a0 = 2
          · rw [if_pos c8] at H
            have c8b0 : (a0 == 2) = true := beq_iff_eq.mpr c8
            have c8b1 : (a0 != 2) = false := bne_eq_false_iff_eq.mpr c8
            clear c8
            (first | rw [c8b0] | (simp only [i64_w, i32_w]; rw [c8b0]) | skip)
            have H' := Aside0.mk H
            clear H
            go_wp2
            go_meet
            case rel => exact ⟨_, (true), (by first | rfl | (simp; done) | (simp [*]; done)), H', ⟨by have := HJ3.out; first | omega | exact Nat.le_refl _⟩, by repeat (first | exact Drawn0.refl _ | apply Drawn0.step)⟩
          · rw [if_neg c8] at H
            have c8b0 : (a0 == 2) = false := beq_eq_false_iff_ne.mpr c8
            have c8b1 : (a0 != 2) = true := bne_iff_ne.mpr c8
            (first | rw [c8b0] | (simp only [i64_w, i32_w]; rw [c8b0]) | skip)
            have H' := Aside0.mk H
            clear H
            go_wp2
            go_meet
            case rel => exact ⟨_, ((a0 == 12)), (by first | rfl | (simp; done) | (simp [*]; done)), H', ⟨by have := HJ3.out; first | omega | exact Nat.le_refl _⟩, by repeat (first | exact Drawn0.refl _ | apply Drawn0.step)⟩
        case rest =>
          clear HC7
          try clear c5
          try clear c5b0
          try clear c5b1
          try clear c6
          obtain ⟨kq, x21_6, rfl, HA, HJ6, ⟨mc6, rfl⟩⟩ := hcut
          cases kq with
          | zero => exact absurd HA.out (by simp [spec_l1Exact.j1])
          | succ kj6 =>
            have H := HA.out
            clear HA
            simp only [spec_l1Exact.j1] at H
            by_cases c9 : x21_6 = true
            · subst c9
              have H1 : (some (wrap64 (a1 - a2))) = some r := by rw [if_pos rfl] at H; exact H
              clear H
              have H := H1
              clear H1
              obtain rfl := Option.some.inj H
              go_wp2
              go_ret
              exact ⟨by first | rfl | (simp; done) | (simp [*]; done), by repeat (first | exact Drawn0.refl _ | apply Drawn0.step)⟩
            · replace c9 := Bool.eq_false_iff.mpr c9
              subst c9
              have H1 : (if a0 = 3 then (spec_l1Exact.j2 kj6 a0 a1 a2 true) else (spec_l1Exact.j2 kj6 a0 a1 a2 (a0 == 13))) = some r := by rw [if_neg (show ¬ (false = true) by decide)] at H; exact H
              clear H
              have H := H1
              clear H1
              have HC10 := Aside0.mk H
              clear H
              go_upto_region 5 with (fail)
              go_cut [30] (fun v30 wc => ∃ (kq : Nat) (x30_9 : Bool), v30 = .bool x30_9 ∧ Aside0 (spec_l1Exact.j2 kq a0 a1 a2 x30_9 = some r) ∧ Aside0 (kq ≤ kj6) ∧ Drawn0 w wc)
              case first =>
                have H := HC10.out
                clear HC10
                by_cases c11 : a0 = 3
                · rw [if_pos c11] at H
                  have c11b0 : (a0 == 3) = true := beq_iff_eq.mpr c11
                  have c11b1 : (a0 != 3) = false := bne_eq_false_iff_eq.mpr c11
                  clear c11
                  (first | rw [c11b0] | (simp only [i64_w, i32_w]; rw [c11b0]) | skip)
                  have H' := Aside0.mk H
                  clear H
                  go_wp2
                  go_meet
                  case rel => exact ⟨_, (true), (by first | rfl | (simp; done) | (simp [*]; done)), H', ⟨by have := HJ3.out; have := HJ6.out; first | omega | exact Nat.le_refl _⟩, by repeat (first | exact Drawn0.refl _ | apply Drawn0.step)⟩
                · rw [if_neg c11] at H
                  have c11b0 : (a0 == 3) = false := beq_eq_false_iff_ne.mpr c11
                  have c11b1 : (a0 != 3) = true := bne_iff_ne.mpr c11
                  (first | rw [c11b0] | (simp only [i64_w, i32_w]; rw [c11b0]) | skip)
                  have H' := Aside0.mk H
                  clear H
                  go_wp2
                  go_meet
                  case rel => exact ⟨_, ((a0 == 13)), (by first | rfl | (simp; done) | (simp [*]; done)), H', ⟨by have := HJ3.out; have := HJ6.out; first | omega | exact Nat.le_refl _⟩, by repeat (first | exact Drawn0.refl _ | apply Drawn0.step)⟩
              case rest =>
                clear HC10
                try clear c5
                try clear c5b0
                try clear c5b1
                try clear c6
                try clear c8
                try clear c8b0
                try clear c8b1
                try clear c9
                obtain ⟨kq, x30_9, rfl, HA, HJ9, ⟨mc9, rfl⟩⟩ := hcut
                cases kq with
                | zero => exact absurd HA.out (by simp [spec_l1Exact.j2])
                | succ kj9 =>
                  have H := HA.out
                  clear HA
                  simp only [spec_l1Exact.j2] at H
                  by_cases c12 : x30_9 = true
                  · subst c12
                    have H1 : (some (wrap64 (a1 * a2))) = some r := by rw [if_pos rfl] at H; exact H
                    clear H
                    have H := H1
                    clear H1
                    obtain rfl := Option.some.inj H
                    go_wp2
                    go_ret
                    exact ⟨by first | rfl | (simp; done) | (simp [*]; done), by repeat (first | exact Drawn0.refl _ | apply Drawn0.step)⟩
                  · replace c12 := Bool.eq_false_iff.mpr c12
                    subst c12
                    have H1 : (if a0 = 4 then (if a2 = 0 then (none) else (some (wrap64 (Int.tdiv a1 a2)))) else (if a0 = 5 then (if a2 = 0 then (none) else (some (Int.tmod a1 a2))) else (if a0 = 9 then ((spec_l1Power.f kj9 a2).bind fun t294 => (some (wrap64 (a1 * t294)))) else (if a0 = 10 then ((spec_l1Power.f kj9 a2).bind fun t295 => ((spec_l1Floor.f a1 t295).bind fun t296 => (some t296))) else ((spec_l1Bits.f kj9 a0 a1 a2).bind fun t297 => (some t297)))))) = some r := by rw [if_neg (show ¬ (false = true) by decide)] at H; exact H
                    clear H
                    have H := H1
                    clear H1
                    by_cases c13 : a0 = 4
                    · rw [if_pos c13] at H
                      have c13b0 : (a0 == 4) = true := beq_iff_eq.mpr c13
                      have c13b1 : (a0 != 4) = false := bne_eq_false_iff_eq.mpr c13
                      clear c13
                      by_cases c14 : a2 = 0
                      · rw [if_pos c14] at H
                        exact absurd H (by simp)
                      · rw [if_neg c14] at H
                        have c14b0 : (a2 == 0) = false := beq_eq_false_iff_ne.mpr c14
                        have c14b1 : (a2 != 0) = true := bne_iff_ne.mpr c14
                        obtain rfl := Option.some.inj H
                        go_wp2
                        go_ret
                        exact ⟨by first | rfl | (simp; done) | (simp [*]; done), by repeat (first | exact Drawn0.refl _ | apply Drawn0.step)⟩
                    · rw [if_neg c13] at H
                      have c13b0 : (a0 == 4) = false := beq_eq_false_iff_ne.mpr c13
                      have c13b1 : (a0 != 4) = true := bne_iff_ne.mpr c13
                      by_cases c15 : a0 = 5
                      · rw [if_pos c15] at H
                        have c15b0 : (a0 == 5) = true := beq_iff_eq.mpr c15
                        have c15b1 : (a0 != 5) = false := bne_eq_false_iff_eq.mpr c15
                        clear c15
                        by_cases c16 : a2 = 0
                        · rw [if_pos c16] at H
                          exact absurd H (by simp)
                        · rw [if_neg c16] at H
                          have c16b0 : (a2 == 0) = false := beq_eq_false_iff_ne.mpr c16
                          have c16b1 : (a2 != 0) = true := bne_iff_ne.mpr c16
                          obtain rfl := Option.some.inj H
                          go_wp2
                          go_ret
                          exact ⟨by first | rfl | (simp; done) | (simp [*]; done), by repeat (first | exact Drawn0.refl _ | apply Drawn0.step)⟩
                      · rw [if_neg c15] at H
                        have c15b0 : (a0 == 5) = false := beq_eq_false_iff_ne.mpr c15
                        have c15b1 : (a0 != 5) = true := bne_iff_ne.mpr c15
                        by_cases c17 : a0 = 9
                        · rw [if_pos c17] at H
                          have c17b0 : (a0 == 9) = true := beq_iff_eq.mpr c17
                          have c17b1 : (a0 != 9) = false := bne_eq_false_iff_eq.mpr c17
                          clear c17
                          replace H := Option.bind_eq_some_iff.mp H
                          obtain ⟨t294, A180, H⟩ := H
                          replace H : (some (wrap64 (a1 * t294))) = some r := H
                          have A18 := Aside0.mk A180
                          clear A180
                          obtain rfl := Option.some.inj H
                          go_wp2_with (first | ((with_reducible refine gate_callee (f := 157) rfl ?_); refine sqL (some 48) Try.func157 #[.int .i64 a2] ?_; (with_reducible refine (spec_l1Power.calls kj9 a2 t294 _ A18.out).mono ?_); rintro e w' ⟨rfl, ⟨nd, rfl⟩⟩; refine ⟨_, rfl, ?_⟩))
                          go_ret
                          exact ⟨by first | rfl | (simp; done) | (simp [*]; done), by repeat (first | exact Drawn0.refl _ | apply Drawn0.step)⟩
                        · rw [if_neg c17] at H
                          have c17b0 : (a0 == 9) = false := beq_eq_false_iff_ne.mpr c17
                          have c17b1 : (a0 != 9) = true := bne_iff_ne.mpr c17
                          by_cases c19 : a0 = 10
                          · rw [if_pos c19] at H
                            have c19b0 : (a0 == 10) = true := beq_iff_eq.mpr c19
                            have c19b1 : (a0 != 10) = false := bne_eq_false_iff_eq.mpr c19
                            clear c19
                            replace H := Option.bind_eq_some_iff.mp H
                            obtain ⟨t295, A200, H⟩ := H
                            replace H : ((spec_l1Floor.f a1 t295).bind fun t296 => (some t296)) = some r := H
                            have A20 := Aside0.mk A200
                            clear A200
                            replace H := Option.bind_eq_some_iff.mp H
                            obtain ⟨t296, A210, H⟩ := H
                            replace H : (some t296) = some r := H
                            have A21 := Aside0.mk A210
                            clear A210
                            obtain rfl := Option.some.inj H
                            go_wp2_with (first | ((with_reducible refine gate_callee (f := 157) rfl ?_); refine sqL (some 54) Try.func157 #[.int .i64 a2] ?_; (with_reducible refine (spec_l1Power.calls kj9 a2 t295 _ A20.out).mono ?_); rintro e w' ⟨rfl, ⟨nd, rfl⟩⟩; refine ⟨_, rfl, ?_⟩) | ((with_reducible refine gate_callee (f := 206) rfl ?_); refine sqL (some 55) Try.func206 #[.int .i64 a1, .int .i64 t295] ?_; (with_reducible refine (spec_l1Floor.calls a1 t295 t296 _ A21.out).mono ?_); rintro e w' ⟨rfl, ⟨nd, rfl⟩⟩; refine ⟨_, rfl, ?_⟩))
                            go_ret
                            exact ⟨by first | rfl | (simp; done) | (simp [*]; done), by repeat (first | exact Drawn0.refl _ | apply Drawn0.step)⟩
                          · rw [if_neg c19] at H
                            have c19b0 : (a0 == 10) = false := beq_eq_false_iff_ne.mpr c19
                            have c19b1 : (a0 != 10) = true := bne_iff_ne.mpr c19
                            replace H := Option.bind_eq_some_iff.mp H
                            obtain ⟨t297, A220, H⟩ := H
                            replace H : (some t297) = some r := H
                            have A22 := Aside0.mk A220
                            clear A220
                            obtain rfl := Option.some.inj H
                            go_wp2_with (first | ((with_reducible refine gate_callee (f := 207) rfl ?_); refine sqL (some 59) Try.func207 #[.int .i64 a0, .int .i64 a1, .int .i64 a2] ?_; (with_reducible refine (spec_l1Bits.calls kj9 a0 a1 a2 t297 _ A22.out).mono ?_); rintro e w' ⟨rfl, ⟨nd, rfl⟩⟩; refine ⟨_, rfl, ?_⟩))
                            go_ret
                            exact ⟨by first | rfl | (simp; done) | (simp [*]; done), by repeat (first | exact Drawn0.refl _ | apply Drawn0.step)⟩

end Go.Proofs.Ytkekcenlleebeaa.PFnRestDo
