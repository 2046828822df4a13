/- Functions of the program as plain Lean functions, and that calls of them come to what these tell. Conditions: those in each law. -/
import Derived.Test.YtkekcenlleebeaaSq
import Derived.Test.YtkekcenlleebeaaDFnRangeCmp
import Derived.Test.YtkekcenlleebeaaQFnRangeCmpx0
import Derived.Test.YtkekcenlleebeaaQFnRangeCmpx2
import Derived.Test.YtkekcenlleebeaaQFnRangeCmpx4
namespace Go.Proofs.Ytkekcenlleebeaa.PFnRangeCmp
open Go.RowKit Go.Proofs.Ytkekcenlleebeaa.Sq Go.Proofs.YtkekcenlleebeaaW.PrintWords Go.Proofs.YtkekcenlleebeaaW.PrintLast Go.Proofs.YtkekcenlleebeaaW.PrintMore
attribute [local go_sem] max2_int min2_int max_two min_two max_three min_three max_four min_four   -- for this text's walks alone
set_option linter.unusedVariables false
set_option linter.unusedSimpArgs false

/-! ### spec_l1Rd_num: function 195 -/
theorem spec_l1Rd_num.mono_l : ∀ k, (∀ y0 y1 y2 y3, LeO (spec_l1Rd_num.l0 k y0 y1 y2 y3) (spec_l1Rd_num.l0 (k + 1) y0 y1 y2 y3))
  | 0 => fun _ _ _ _ r h => by simp [spec_l1Rd_num.l0] at h
  | k + 1 => by
    have ih0 := spec_l1Rd_num.mono_l k
    · intro y0 y1 y2 y3
      unfold spec_l1Rd_num.l0
      repeat' first
      | (with_reducible exact ih0 _ _ _ _)
      | (with_reducible exact spec_l1Power.mono _ _)
      | (with_reducible exact spec_l1Rd_pick.mono _ _ _ _)
      | (with_reducible exact LeO.refl _)
      | (with_reducible exact LeO.none _)
      | (with_reducible refine LeO.ite ?_ ?_)
      | (with_reducible refine LeO.bind ?_ (fun _ => ?_))
      | exact ih0 _ _ _ _
      | exact spec_l1Power.mono _ _
      | exact spec_l1Rd_pick.mono _ _ _ _
      | exact LeO.none _
      | refine LeO.ite ?_ ?_
      | refine LeO.bind ?_ (fun _ => ?_)
theorem spec_l1Rd_num.mono : ∀ a0 a1 k, LeO (spec_l1Rd_num.f k a0 a1) (spec_l1Rd_num.f (k + 1) a0 a1) := by
  intro a0 a1 k
  have ih0 := spec_l1Rd_num.mono_l k
  unfold spec_l1Rd_num.f
  repeat' first
      | (with_reducible exact ih0 _ _ _ _)
      | (with_reducible exact spec_l1Power.mono _ _)
      | (with_reducible exact spec_l1Rd_pick.mono _ _ _ _)
      | (with_reducible exact LeO.refl _)
      | (with_reducible exact LeO.none _)
      | (with_reducible refine LeO.ite ?_ ?_)
      | (with_reducible refine LeO.bind ?_ (fun _ => ?_))
      | exact ih0 _ _ _ _
      | exact spec_l1Power.mono _ _
      | exact spec_l1Rd_pick.mono _ _ _ _
      | exact LeO.none _
      | refine LeO.ite ?_ ?_
      | refine LeO.bind ?_ (fun _ => ?_)
set_option maxHeartbeats 8000000 in
set_option maxRecDepth 100000 in
theorem spec_l1Rd_num.calls (k : Nat) (g : Nat) (s0_0 : List Int) (s0_1 : Int) (r1 : Int) (r2 : Int) (w0 w : World) (hI : IsS161 w0 w g s0_0 s0_1) (hB : Below w0.heap.size w0 w) (h : spec_l1Rd_num.f k s0_0 s0_1 = some (r1, r2)) :
    Calls Try.prog 195 #[.pointer (some ⟨g, 0, none⟩)] w fun e w' => e = .returned (.int .i64 r1) ∧ IsS161 w0 w' g s0_0 r2 ∧ Below w0.heap.size w0 w' ∧ KeepBut w w' g none := by
  have HI0 := Aside0.mk hI
  have HK := Aside0.mk (KeepBut.refl w g none)
  have HL := Aside0.mk hB.size
  clear hI
  have HW0 := Aside0.mk hB.size
  have HB := Aside0.mk hB
  clear hB
  have H : ((spec_l1Rd_pick.f k s0_0 s0_1 10).bind fun bt129 => (if bt129.1 < 4 then ((spec_l1Rd_pick.f k s0_0 bt129.2 21).bind fun bt131 => (some (wrap64 (bt131.1 - 10), bt131.2))) else (if bt129.1 = 4 then ((spec_l1Rd_pick.f k s0_0 bt129.2 3).bind fun bt133 => (some (wrap64 (2147483647 - bt133.1), bt133.2))) else (if bt129.1 = 5 then ((spec_l1Rd_pick.f k s0_0 bt129.2 3).bind fun bt135 => (some (wrap64 ((-2147483648) + bt135.1), bt135.2))) else (if bt129.1 = 6 then ((spec_l1Rd_pick.f k s0_0 bt129.2 31).bind fun bt137 => ((spec_l1Power.f k bt137.1).bind fun t139 => ((spec_l1Rd_pick.f k s0_0 bt137.2 3).bind fun bt140 => (some (wrap64 ((wrap64 (t139 + bt140.1)) - 1), bt140.2))))) else (if bt129.1 = 7 then ((spec_l1Rd_pick.f k s0_0 bt129.2 31).bind fun bt142 => ((spec_l1Power.f k bt142.1).bind fun t144 => ((spec_l1Rd_pick.f k s0_0 bt142.2 3).bind fun bt145 => (some (wrap64 ((wrap64 ((wrap64 (-t144)) + bt145.1)) - 1), bt145.2))))) else (spec_l1Rd_num.l0 k 0 0 s0_0 bt129.2))))))) = some (r1, r2) := h
  clear h
  replace H := Option.bind_eq_some_iff.mp H
  obtain ⟨⟨t129, t130⟩, A20, H⟩ := H
  replace H : (if t129 < 4 then ((spec_l1Rd_pick.f k s0_0 t130 21).bind fun bt131 => (some (wrap64 (bt131.1 - 10), bt131.2))) else (if t129 = 4 then ((spec_l1Rd_pick.f k s0_0 t130 3).bind fun bt133 => (some (wrap64 (2147483647 - bt133.1), bt133.2))) else (if t129 = 5 then ((spec_l1Rd_pick.f k s0_0 t130 3).bind fun bt135 => (some (wrap64 ((-2147483648) + bt135.1), bt135.2))) else (if t129 = 6 then ((spec_l1Rd_pick.f k s0_0 t130 31).bind fun bt137 => ((spec_l1Power.f k bt137.1).bind fun t139 => ((spec_l1Rd_pick.f k s0_0 bt137.2 3).bind fun bt140 => (some (wrap64 ((wrap64 (t139 + bt140.1)) - 1), bt140.2))))) else (if t129 = 7 then ((spec_l1Rd_pick.f k s0_0 t130 31).bind fun bt142 => ((spec_l1Power.f k bt142.1).bind fun t144 => ((spec_l1Rd_pick.f k s0_0 bt142.2 3).bind fun bt145 => (some (wrap64 ((wrap64 ((wrap64 (-t144)) + bt145.1)) - 1), bt145.2))))) else (spec_l1Rd_num.l0 k 0 0 s0_0 t130)))))) = some (r1, r2) := H
  have A2 := Aside0.mk A20
  clear A20
  by_cases c3 : t129 < 4
  · rw [if_pos c3] at H
    have c3b0 : decide (t129 < 4) = true := decide_eq_true c3
    clear c3
    replace H := Option.bind_eq_some_iff.mp H
    obtain ⟨⟨t131, t132⟩, A40, H⟩ := H
    replace H : (some (wrap64 (t131 - 10), t132)) = some (r1, r2) := H
    have A4 := Aside0.mk A40
    clear A40
    simp only [Option.some.injEq, Prod.mk.injEq] at H
    obtain ⟨rfl, rfl⟩ := H
    go_enter Try.func195, Try.ntmps195
    go_wp2_with (first | ((with_reducible refine gate_callee (f := 109) rfl ?_); refine sqL (some 7) Try.func109 #[.pointer (some ⟨g, 0, none⟩), .int .i64 10] ?_; (with_reducible refine (spec_l1Rd_pick.calls k g s0_0 s0_1 10 t129 t130 w0 _ ?side1 ?side2 A2.out).mono ?_); (case side1 => repeat (first | (with_reducible first | exact HI0.out | apply IsS161.alloc | apply IsS161.drewN | apply IsS161.drew | apply IsS161.set_1) | exact HI0.out)); (case side2 => repeat (first | (with_reducible first | exact HB.out | apply below_alloc | apply pw_below_drewN | apply below_drew1 | refine below_set ?_ (IsS161.ge HI0.out)) | exact HB.out)); rintro e w5 ⟨rfl, hi, hb, hk⟩; refine ⟨_, rfl, ?_⟩; replace HK := Aside0.mk (KeepBut.trans (by repeat (first | (with_reducible first | exact HK.out | apply KeepBut.set_ | apply keep_drewN | apply keep_drew | apply keep_alloc) | exact HK.out)) hk (.inl rfl)); replace HB := Aside0.mk (hb); replace HI0 := Aside0.mk (hi); (try clear hb); (try clear hb2); (try clear hk); (try clear hi)) | ((with_reducible refine gate_callee (f := 109) rfl ?_); refine sqL (some 11) Try.func109 #[.pointer (some ⟨g, 0, none⟩), .int .i64 21] ?_; (with_reducible refine (spec_l1Rd_pick.calls k g s0_0 t130 21 t131 t132 w0 _ ?side1 ?side2 A4.out).mono ?_); (case side1 => repeat (first | (with_reducible first | exact HI0.out | apply IsS161.alloc | apply IsS161.drewN | apply IsS161.drew | apply IsS161.set_1) | exact HI0.out)); (case side2 => repeat (first | (with_reducible first | exact HB.out | apply below_alloc | apply pw_below_drewN | apply below_drew1 | refine below_set ?_ (IsS161.ge HI0.out)) | exact HB.out)); rintro e w6 ⟨rfl, hi, hb, hk⟩; refine ⟨_, rfl, ?_⟩; replace HK := Aside0.mk (KeepBut.trans (by repeat (first | (with_reducible first | exact HK.out | apply KeepBut.set_ | apply keep_drewN | apply keep_drew | apply keep_alloc) | exact HK.out)) hk (.inl rfl)); replace HB := Aside0.mk (hb); replace HI0 := Aside0.mk (hi); (try clear hb); (try clear hb2); (try clear hk); (try clear hi)))
    go_ret
    exact ⟨by first | rfl | (simp [errW_none, errW_some] <;> rfl) | (simp [*, errW_none, errW_some] <;> rfl), by repeat (first | (with_reducible first | exact HI0.out | apply IsS161.alloc | apply IsS161.drewN | apply IsS161.drew | apply IsS161.set_1) | exact HI0.out), by repeat (first | (with_reducible first | exact HB.out | apply below_alloc | apply pw_below_drewN | apply below_drew1 | refine below_set ?_ (IsS161.ge HI0.out)) | exact HB.out), by repeat (first | (with_reducible first | exact HK.out | apply KeepBut.set_ | apply keep_drewN | apply keep_drew | apply keep_alloc) | exact HK.out)⟩
  · rw [if_neg c3] at H
    have c3b0 : decide (t129 < 4) = false := decide_eq_false c3
    clear c3
    by_cases c7 : t129 = 4
    · rw [if_pos c7] at H
      have c7b0 : (t129 == 4) = true := beq_iff_eq.mpr c7
      have c7b1 : (t129 != 4) = false := bne_eq_false_iff_eq.mpr c7
      clear c7
      replace H := Option.bind_eq_some_iff.mp H
      obtain ⟨⟨t133, t134⟩, A80, H⟩ := H
      replace H : (some (wrap64 (2147483647 - t133), t134)) = some (r1, r2) := H
      have A8 := Aside0.mk A80
      clear A80
      simp only [Option.some.injEq, Prod.mk.injEq] at H
      obtain ⟨rfl, rfl⟩ := H
      go_enter Try.func195, Try.ntmps195
      go_wp2_with (first | ((with_reducible refine gate_callee (f := 109) rfl ?_); refine sqL (some 7) Try.func109 #[.pointer (some ⟨g, 0, none⟩), .int .i64 10] ?_; (with_reducible refine (spec_l1Rd_pick.calls k g s0_0 s0_1 10 t129 t130 w0 _ ?side1 ?side2 A2.out).mono ?_); (case side1 => repeat (first | (with_reducible first | exact HI0.out | apply IsS161.alloc | apply IsS161.drewN | apply IsS161.drew | apply IsS161.set_1) | exact HI0.out)); (case side2 => repeat (first | (with_reducible first | exact HB.out | apply below_alloc | apply pw_below_drewN | apply below_drew1 | refine below_set ?_ (IsS161.ge HI0.out)) | exact HB.out)); rintro e w9 ⟨rfl, hi, hb, hk⟩; refine ⟨_, rfl, ?_⟩; replace HK := Aside0.mk (KeepBut.trans (by repeat (first | (with_reducible first | exact HK.out | apply KeepBut.set_ | apply keep_drewN | apply keep_drew | apply keep_alloc) | exact HK.out)) hk (.inl rfl)); replace HB := Aside0.mk (hb); replace HI0 := Aside0.mk (hi); (try clear hb); (try clear hb2); (try clear hk); (try clear hi)) | ((with_reducible refine gate_callee (f := 109) rfl ?_); refine sqL (some 16) Try.func109 #[.pointer (some ⟨g, 0, none⟩), .int .i64 3] ?_; (with_reducible refine (spec_l1Rd_pick.calls k g s0_0 t130 3 t133 t134 w0 _ ?side1 ?side2 A8.out).mono ?_); (case side1 => repeat (first | (with_reducible first | exact HI0.out | apply IsS161.alloc | apply IsS161.drewN | apply IsS161.drew | apply IsS161.set_1) | exact HI0.out)); (case side2 => repeat (first | (with_reducible first | exact HB.out | apply below_alloc | apply pw_below_drewN | apply below_drew1 | refine below_set ?_ (IsS161.ge HI0.out)) | exact HB.out)); rintro e w10 ⟨rfl, hi, hb, hk⟩; refine ⟨_, rfl, ?_⟩; replace HK := Aside0.mk (KeepBut.trans (by repeat (first | (with_reducible first | exact HK.out | apply KeepBut.set_ | apply keep_drewN | apply keep_drew | apply keep_alloc) | exact HK.out)) hk (.inl rfl)); replace HB := Aside0.mk (hb); replace HI0 := Aside0.mk (hi); (try clear hb); (try clear hb2); (try clear hk); (try clear hi)))
      go_ret
      exact ⟨by first | rfl | (simp [errW_none, errW_some] <;> rfl) | (simp [*, errW_none, errW_some] <;> rfl), by repeat (first | (with_reducible first | exact HI0.out | apply IsS161.alloc | apply IsS161.drewN | apply IsS161.drew | apply IsS161.set_1) | exact HI0.out), by repeat (first | (with_reducible first | exact HB.out | apply below_alloc | apply pw_below_drewN | apply below_drew1 | refine below_set ?_ (IsS161.ge HI0.out)) | exact HB.out), by repeat (first | (with_reducible first | exact HK.out | apply KeepBut.set_ | apply keep_drewN | apply keep_drew | apply keep_alloc) | exact HK.out)⟩
    · rw [if_neg c7] at H
      have c7b0 : (t129 == 4) = false := beq_eq_false_iff_ne.mpr c7
      have c7b1 : (t129 != 4) = true := bne_iff_ne.mpr c7
      by_cases c11 : t129 = 5
      · rw [if_pos c11] at H
        have c11b0 : (t129 == 5) = true := beq_iff_eq.mpr c11
        have c11b1 : (t129 != 5) = false := bne_eq_false_iff_eq.mpr c11
        clear c11
        replace H := Option.bind_eq_some_iff.mp H
        obtain ⟨⟨t135, t136⟩, A120, H⟩ := H
        replace H : (some (wrap64 ((-2147483648) + t135), t136)) = some (r1, r2) := H
        have A12 := Aside0.mk A120
        clear A120
        simp only [Option.some.injEq, Prod.mk.injEq] at H
        obtain ⟨rfl, rfl⟩ := H
        go_enter Try.func195, Try.ntmps195
        go_wp2_with (first | ((with_reducible refine gate_callee (f := 109) rfl ?_); refine sqL (some 7) Try.func109 #[.pointer (some ⟨g, 0, none⟩), .int .i64 10] ?_; (with_reducible refine (spec_l1Rd_pick.calls k g s0_0 s0_1 10 t129 t130 w0 _ ?side1 ?side2 A2.out).mono ?_); (case side1 => repeat (first | (with_reducible first | exact HI0.out | apply IsS161.alloc | apply IsS161.drewN | apply IsS161.drew | apply IsS161.set_1) | exact HI0.out)); (case side2 => repeat (first | (with_reducible first | exact HB.out | apply below_alloc | apply pw_below_drewN | apply below_drew1 | refine below_set ?_ (IsS161.ge HI0.out)) | exact HB.out)); rintro e w13 ⟨rfl, hi, hb, hk⟩; refine ⟨_, rfl, ?_⟩; replace HK := Aside0.mk (KeepBut.trans (by repeat (first | (with_reducible first | exact HK.out | apply KeepBut.set_ | apply keep_drewN | apply keep_drew | apply keep_alloc) | exact HK.out)) hk (.inl rfl)); replace HB := Aside0.mk (hb); replace HI0 := Aside0.mk (hi); (try clear hb); (try clear hb2); (try clear hk); (try clear hi)) | ((with_reducible refine gate_callee (f := 109) rfl ?_); refine sqL (some 21) Try.func109 #[.pointer (some ⟨g, 0, none⟩), .int .i64 3] ?_; (with_reducible refine (spec_l1Rd_pick.calls k g s0_0 t130 3 t135 t136 w0 _ ?side1 ?side2 A12.out).mono ?_); (case side1 => repeat (first | (with_reducible first | exact HI0.out | apply IsS161.alloc | apply IsS161.drewN | apply IsS161.drew | apply IsS161.set_1) | exact HI0.out)); (case side2 => repeat (first | (with_reducible first | exact HB.out | apply below_alloc | apply pw_below_drewN | apply below_drew1 | refine below_set ?_ (IsS161.ge HI0.out)) | exact HB.out)); rintro e w14 ⟨rfl, hi, hb, hk⟩; refine ⟨_, rfl, ?_⟩; replace HK := Aside0.mk (KeepBut.trans (by repeat (first | (with_reducible first | exact HK.out | apply KeepBut.set_ | apply keep_drewN | apply keep_drew | apply keep_alloc) | exact HK.out)) hk (.inl rfl)); replace HB := Aside0.mk (hb); replace HI0 := Aside0.mk (hi); (try clear hb); (try clear hb2); (try clear hk); (try clear hi)))
        go_ret
        exact ⟨by first | rfl | (simp [errW_none, errW_some] <;> rfl) | (simp [*, errW_none, errW_some] <;> rfl), by repeat (first | (with_reducible first | exact HI0.out | apply IsS161.alloc | apply IsS161.drewN | apply IsS161.drew | apply IsS161.set_1) | exact HI0.out), by repeat (first | (with_reducible first | exact HB.out | apply below_alloc | apply pw_below_drewN | apply below_drew1 | refine below_set ?_ (IsS161.ge HI0.out)) | exact HB.out), by repeat (first | (with_reducible first | exact HK.out | apply KeepBut.set_ | apply keep_drewN | apply keep_drew | apply keep_alloc) | exact HK.out)⟩
      · rw [if_neg c11] at H
        have c11b0 : (t129 == 5) = false := beq_eq_false_iff_ne.mpr c11
        have c11b1 : (t129 != 5) = true := bne_iff_ne.mpr c11
        by_cases c15 : t129 = 6
        · rw [if_pos c15] at H
          have c15b0 : (t129 == 6) = true := beq_iff_eq.mpr c15
          have c15b1 : (t129 != 6) = false := bne_eq_false_iff_eq.mpr c15
          clear c15
          replace H := Option.bind_eq_some_iff.mp H
          obtain ⟨⟨t137, t138⟩, A160, H⟩ := H
          replace H : ((spec_l1Power.f k t137).bind fun t139 => ((spec_l1Rd_pick.f k s0_0 t138 3).bind fun bt140 => (some (wrap64 ((wrap64 (t139 + bt140.1)) - 1), bt140.2)))) = some (r1, r2) := H
          have A16 := Aside0.mk A160
          clear A160
          replace H := Option.bind_eq_some_iff.mp H
          obtain ⟨t139, A170, H⟩ := H
          replace H : ((spec_l1Rd_pick.f k s0_0 t138 3).bind fun bt140 => (some (wrap64 ((wrap64 (t139 + bt140.1)) - 1), bt140.2))) = some (r1, r2) := H
          have A17 := Aside0.mk A170
          clear A170
          replace H := Option.bind_eq_some_iff.mp H
          obtain ⟨⟨t140, t141⟩, A180, H⟩ := H
          replace H : (some (wrap64 ((wrap64 (t139 + t140)) - 1), t141)) = some (r1, r2) := H
          have A18 := Aside0.mk A180
          clear A180
          simp only [Option.some.injEq, Prod.mk.injEq] at H
          obtain ⟨rfl, rfl⟩ := H
          go_enter Try.func195, Try.ntmps195
          go_wp2_with (first | ((with_reducible refine gate_callee (f := 109) rfl ?_); refine sqL (some 7) Try.func109 #[.pointer (some ⟨g, 0, none⟩), .int .i64 10] ?_; (with_reducible refine (spec_l1Rd_pick.calls k g s0_0 s0_1 10 t129 t130 w0 _ ?side1 ?side2 A2.out).mono ?_); (case side1 => repeat (first | (with_reducible first | exact HI0.out | apply IsS161.alloc | apply IsS161.drewN | apply IsS161.drew | apply IsS161.set_1) | exact HI0.out)); (case side2 => repeat (first | (with_reducible first | exact HB.out | apply below_alloc | apply pw_below_drewN | apply below_drew1 | refine below_set ?_ (IsS161.ge HI0.out)) | exact HB.out)); rintro e w19 ⟨rfl, hi, hb, hk⟩; refine ⟨_, rfl, ?_⟩; replace HK := Aside0.mk (KeepBut.trans (by repeat (first | (with_reducible first | exact HK.out | apply KeepBut.set_ | apply keep_drewN | apply keep_drew | apply keep_alloc) | exact HK.out)) hk (.inl rfl)); replace HB := Aside0.mk (hb); replace HI0 := Aside0.mk (hi); (try clear hb); (try clear hb2); (try clear hk); (try clear hi)) | ((with_reducible refine gate_callee (f := 109) rfl ?_); refine sqL (some 26) Try.func109 #[.pointer (some ⟨g, 0, none⟩), .int .i64 31] ?_; (with_reducible refine (spec_l1Rd_pick.calls k g s0_0 t130 31 t137 t138 w0 _ ?side1 ?side2 A16.out).mono ?_); (case side1 => repeat (first | (with_reducible first | exact HI0.out | apply IsS161.alloc | apply IsS161.drewN | apply IsS161.drew | apply IsS161.set_1) | exact HI0.out)); (case side2 => repeat (first | (with_reducible first | exact HB.out | apply below_alloc | apply pw_below_drewN | apply below_drew1 | refine below_set ?_ (IsS161.ge HI0.out)) | exact HB.out)); rintro e w20 ⟨rfl, hi, hb, hk⟩; refine ⟨_, rfl, ?_⟩; replace HK := Aside0.mk (KeepBut.trans (by repeat (first | (with_reducible first | exact HK.out | apply KeepBut.set_ | apply keep_drewN | apply keep_drew | apply keep_alloc) | exact HK.out)) hk (.inl rfl)); replace HB := Aside0.mk (hb); replace HI0 := Aside0.mk (hi); (try clear hb); (try clear hb2); (try clear hk); (try clear hi)) | ((with_reducible refine gate_callee (f := 157) rfl ?_); refine sqL (some 27) Try.func157 #[.int .i64 t137] ?_; (with_reducible refine (spec_l1Power.calls k t137 t139 _ A17.out).mono ?_); rintro e w' ⟨rfl, ⟨nd, rfl⟩⟩; refine ⟨_, rfl, ?_⟩) | ((with_reducible refine gate_callee (f := 109) rfl ?_); refine sqL (some 29) Try.func109 #[.pointer (some ⟨g, 0, none⟩), .int .i64 3] ?_; (with_reducible refine (spec_l1Rd_pick.calls k g s0_0 t138 3 t140 t141 w0 _ ?side1 ?side2 A18.out).mono ?_); (case side1 => repeat (first | (with_reducible first | exact HI0.out | apply IsS161.alloc | apply IsS161.drewN | apply IsS161.drew | apply IsS161.set_1) | exact HI0.out)); (case side2 => repeat (first | (with_reducible first | exact HB.out | apply below_alloc | apply pw_below_drewN | apply below_drew1 | refine below_set ?_ (IsS161.ge HI0.out)) | exact HB.out)); rintro e w21 ⟨rfl, hi, hb, hk⟩; refine ⟨_, rfl, ?_⟩; replace HK := Aside0.mk (KeepBut.trans (by repeat (first | (with_reducible first | exact HK.out | apply KeepBut.set_ | apply keep_drewN | apply keep_drew | apply keep_alloc) | exact HK.out)) hk (.inl rfl)); replace HB := Aside0.mk (hb); replace HI0 := Aside0.mk (hi); (try clear hb); (try clear hb2); (try clear hk); (try clear hi)))
          go_ret
          exact ⟨by first | rfl | (simp [errW_none, errW_some] <;> rfl) | (simp [*, errW_none, errW_some] <;> rfl), by repeat (first | (with_reducible first | exact HI0.out | apply IsS161.alloc | apply IsS161.drewN | apply IsS161.drew | apply IsS161.set_1) | exact HI0.out), by repeat (first | (with_reducible first | exact HB.out | apply below_alloc | apply pw_below_drewN | apply below_drew1 | refine below_set ?_ (IsS161.ge HI0.out)) | exact HB.out), by repeat (first | (with_reducible first | exact HK.out | apply KeepBut.set_ | apply keep_drewN | apply keep_drew | apply keep_alloc) | exact HK.out)⟩
        · rw [if_neg c15] at H
          have c15b0 : (t129 == 6) = false := beq_eq_false_iff_ne.mpr c15
          have c15b1 : (t129 != 6) = true := bne_iff_ne.mpr c15
          by_cases c22 : t129 = 7
          · rw [if_pos c22] at H
            have c22b0 : (t129 == 7) = true := beq_iff_eq.mpr c22
            have c22b1 : (t129 != 7) = false := bne_eq_false_iff_eq.mpr c22
            clear c22
            replace H := Option.bind_eq_some_iff.mp H
            obtain ⟨⟨t142, t143⟩, A230, H⟩ := H
            replace H : ((spec_l1Power.f k t142).bind fun t144 => ((spec_l1Rd_pick.f k s0_0 t143 3).bind fun bt145 => (some (wrap64 ((wrap64 ((wrap64 (-t144)) + bt145.1)) - 1), bt145.2)))) = some (r1, r2) := H
            have A23 := Aside0.mk A230
            clear A230
            replace H := Option.bind_eq_some_iff.mp H
            obtain ⟨t144, A240, H⟩ := H
            replace H : ((spec_l1Rd_pick.f k s0_0 t143 3).bind fun bt145 => (some (wrap64 ((wrap64 ((wrap64 (-t144)) + bt145.1)) - 1), bt145.2))) = some (r1, r2) := H
            have A24 := Aside0.mk A240
            clear A240
            replace H := Option.bind_eq_some_iff.mp H
            obtain ⟨⟨t145, t146⟩, A250, H⟩ := H
            replace H : (some (wrap64 ((wrap64 ((wrap64 (-t144)) + t145)) - 1), t146)) = some (r1, r2) := H
            have A25 := Aside0.mk A250
            clear A250
            simp only [Option.some.injEq, Prod.mk.injEq] at H
            obtain ⟨rfl, rfl⟩ := H
            go_enter Try.func195, Try.ntmps195
            go_wp2_with (first | ((with_reducible refine gate_callee (f := 109) rfl ?_); refine sqL (some 7) Try.func109 #[.pointer (some ⟨g, 0, none⟩), .int .i64 10] ?_; (with_reducible refine (spec_l1Rd_pick.calls k g s0_0 s0_1 10 t129 t130 w0 _ ?side1 ?side2 A2.out).mono ?_); (case side1 => repeat (first | (with_reducible first | exact HI0.out | apply IsS161.alloc | apply IsS161.drewN | apply IsS161.drew | apply IsS161.set_1) | exact HI0.out)); (case side2 => repeat (first | (with_reducible first | exact HB.out | apply below_alloc | apply pw_below_drewN | apply below_drew1 | refine below_set ?_ (IsS161.ge HI0.out)) | exact HB.out)); rintro e w26 ⟨rfl, hi, hb, hk⟩; refine ⟨_, rfl, ?_⟩; replace HK := Aside0.mk (KeepBut.trans (by repeat (first | (with_reducible first | exact HK.out | apply KeepBut.set_ | apply keep_drewN | apply keep_drew | apply keep_alloc) | exact HK.out)) hk (.inl rfl)); replace HB := Aside0.mk (hb); replace HI0 := Aside0.mk (hi); (try clear hb); (try clear hb2); (try clear hk); (try clear hi)) | ((with_reducible refine gate_callee (f := 109) rfl ?_); refine sqL (some 35) Try.func109 #[.pointer (some ⟨g, 0, none⟩), .int .i64 31] ?_; (with_reducible refine (spec_l1Rd_pick.calls k g s0_0 t130 31 t142 t143 w0 _ ?side1 ?side2 A23.out).mono ?_); (case side1 => repeat (first | (with_reducible first | exact HI0.out | apply IsS161.alloc | apply IsS161.drewN | apply IsS161.drew | apply IsS161.set_1) | exact HI0.out)); (case side2 => repeat (first | (with_reducible first | exact HB.out | apply below_alloc | apply pw_below_drewN | apply below_drew1 | refine below_set ?_ (IsS161.ge HI0.out)) | exact HB.out)); rintro e w27 ⟨rfl, hi, hb, hk⟩; refine ⟨_, rfl, ?_⟩; replace HK := Aside0.mk (KeepBut.trans (by repeat (first | (with_reducible first | exact HK.out | apply KeepBut.set_ | apply keep_drewN | apply keep_drew | apply keep_alloc) | exact HK.out)) hk (.inl rfl)); replace HB := Aside0.mk (hb); replace HI0 := Aside0.mk (hi); (try clear hb); (try clear hb2); (try clear hk); (try clear hi)) | ((with_reducible refine gate_callee (f := 157) rfl ?_); refine sqL (some 36) Try.func157 #[.int .i64 t142] ?_; (with_reducible refine (spec_l1Power.calls k t142 t144 _ A24.out).mono ?_); rintro e w' ⟨rfl, ⟨nd, rfl⟩⟩; refine ⟨_, rfl, ?_⟩) | ((with_reducible refine gate_callee (f := 109) rfl ?_); refine sqL (some 39) Try.func109 #[.pointer (some ⟨g, 0, none⟩), .int .i64 3] ?_; (with_reducible refine (spec_l1Rd_pick.calls k g s0_0 t143 3 t145 t146 w0 _ ?side1 ?side2 A25.out).mono ?_); (case side1 => repeat (first | (with_reducible first | exact HI0.out | apply IsS161.alloc | apply IsS161.drewN | apply IsS161.drew | apply IsS161.set_1) | exact HI0.out)); (case side2 => repeat (first | (with_reducible first | exact HB.out | apply below_alloc | apply pw_below_drewN | apply below_drew1 | refine below_set ?_ (IsS161.ge HI0.out)) | exact HB.out)); rintro e w28 ⟨rfl, hi, hb, hk⟩; refine ⟨_, rfl, ?_⟩; replace HK := Aside0.mk (KeepBut.trans (by repeat (first | (with_reducible first | exact HK.out | apply KeepBut.set_ | apply keep_drewN | apply keep_drew | apply keep_alloc) | exact HK.out)) hk (.inl rfl)); replace HB := Aside0.mk (hb); replace HI0 := Aside0.mk (hi); (try clear hb); (try clear hb2); (try clear hk); (try clear hi)))
            go_ret
            exact ⟨by first | rfl | (simp [errW_none, errW_some] <;> rfl) | (simp [*, errW_none, errW_some] <;> rfl), by repeat (first | (with_reducible first | exact HI0.out | apply IsS161.alloc | apply IsS161.drewN | apply IsS161.drew | apply IsS161.set_1) | exact HI0.out), by repeat (first | (with_reducible first | exact HB.out | apply below_alloc | apply pw_below_drewN | apply below_drew1 | refine below_set ?_ (IsS161.ge HI0.out)) | exact HB.out), by repeat (first | (with_reducible first | exact HK.out | apply KeepBut.set_ | apply keep_drewN | apply keep_drew | apply keep_alloc) | exact HK.out)⟩
          · rw [if_neg c22] at H
            have c22b0 : (t129 == 7) = false := beq_eq_false_iff_ne.mpr c22
            have c22b1 : (t129 != 7) = true := bne_iff_ne.mpr c22
            have H' := Aside0.mk H
            clear H
            go_enter Try.func195, Try.ntmps195
            go_wp2_with (first | ((with_reducible refine gate_callee (f := 109) rfl ?_); refine sqL (some 7) Try.func109 #[.pointer (some ⟨g, 0, none⟩), .int .i64 10] ?_; (with_reducible refine (spec_l1Rd_pick.calls k g s0_0 s0_1 10 t129 t130 w0 _ ?side1 ?side2 A2.out).mono ?_); (case side1 => repeat (first | (with_reducible first | exact HI0.out | apply IsS161.alloc | apply IsS161.drewN | apply IsS161.drew | apply IsS161.set_1) | exact HI0.out)); (case side2 => repeat (first | (with_reducible first | exact HB.out | apply below_alloc | apply pw_below_drewN | apply below_drew1 | refine below_set ?_ (IsS161.ge HI0.out)) | exact HB.out)); rintro e w29 ⟨rfl, hi, hb, hk⟩; refine ⟨_, rfl, ?_⟩; replace HK := Aside0.mk (KeepBut.trans (by repeat (first | (with_reducible first | exact HK.out | apply KeepBut.set_ | apply keep_drewN | apply keep_drew | apply keep_alloc) | exact HK.out)) hk (.inl rfl)); replace HB := Aside0.mk (hb); replace HI0 := Aside0.mk (hi); (try clear hb); (try clear hb2); (try clear hk); (try clear hi)))
            go_loopg [4, 5] k (fun kq v4 v5 w' => ∃ (x4_1 : Int) (x5_1 : Int) (x1001_1 : Int), v4 = .int .i64 x4_1 ∧ v5 = .int .i64 x5_1 ∧ Aside0 (spec_l1Rd_num.l0 kq x4_1 x5_1 s0_0 x1001_1 = some (r1, r2)) ∧ Aside0 (kq ≤ k) ∧ Aside0 (IsS161 w0 w' g s0_0 x1001_1) ∧ Aside0 (KeepBut w w' g none) ∧ Aside0 (Below w0.heap.size w0 w'))
            case atStart => exact ⟨(0), (0), (t130), (by first | rfl | (simp; done) | (simp [*]; done)), (by first | rfl | (simp; done) | (simp [*]; done)), H', ⟨Nat.le_refl _⟩, ⟨by repeat (first | (with_reducible first | exact HI0.out | apply IsS161.alloc | apply IsS161.drewN | apply IsS161.drew | apply IsS161.set_1) | exact HI0.out)⟩, ⟨by repeat (first | (with_reducible first | exact HK.out | apply KeepBut.set_ | apply keep_drewN | apply keep_drew | apply keep_alloc) | exact HK.out)⟩, ⟨by repeat (first | (with_reducible first | exact HB.out | apply below_alloc | apply pw_below_drewN | apply below_drew1 | refine below_set ?_ (IsS161.ge HI0.out)) | exact HB.out)⟩⟩
            case round =>
              clear H'
              try clear c1
              try clear c2
              try clear p2
              try clear c3
              try clear c3b0
              try clear p6
              try clear c7
              try clear c7b0
              try clear c7b1
              try clear c10
              try clear c11
              try clear c11b0
              try clear c11b1
              try clear c15
              try clear c15b0
              try clear c15b1
              try clear c19
              try clear c22
              try clear c22b0
              try clear c22b1
              obtain ⟨x4_1, x5_1, x1001_1, rfl, rfl, HA, HK1, HI0, HK, HB⟩ := hrel
              cases gk with
              | zero => exact absurd HA.out (by simp [spec_l1Rd_num.l0])
              | succ k1 =>
                have H := HA.out
                clear HA
                simp only [spec_l1Rd_num.l0] at H
                by_cases c30 : x5_1 < 4
                · rw [if_pos c30] at H
                  have c30b0 : decide (x5_1 < 4) = true := decide_eq_true c30
                  clear c30
                  replace H := Option.bind_eq_some_iff.mp H
                  obtain ⟨⟨t147, t148⟩, A310, H⟩ := H
                  replace H : (spec_l1Rd_num.l0 k1 (wrap64 ((wrap64 (x4_1 * 256)) + t147)) (wrap64 (x5_1 + 1)) s0_0 t148) = some (r1, r2) := H
                  have A31 := Aside0.mk A310
                  clear A310
                  have H' := Aside0.mk H
                  clear H
                  go_wp2_with (first | ((with_reducible refine gate_callee (f := 109) rfl ?_); refine sqL (some 49) Try.func109 #[.pointer (some ⟨g, 0, none⟩), .int .i64 256] ?_; (with_reducible refine (spec_l1Rd_pick.calls k1 g s0_0 x1001_1 256 t147 t148 w0 _ ?side1 ?side2 A31.out).mono ?_); (case side1 => repeat (first | (with_reducible first | exact HI0.out | apply IsS161.alloc | apply IsS161.drewN | apply IsS161.drew | apply IsS161.set_1) | exact HI0.out)); (case side2 => repeat (first | (with_reducible first | exact HB.out | apply below_alloc | apply pw_below_drewN | apply below_drew1 | refine below_set ?_ (IsS161.ge HI0.out)) | exact HB.out)); rintro e w32 ⟨rfl, hi, hb, hk⟩; refine ⟨_, rfl, ?_⟩; replace HK := Aside0.mk (KeepBut.trans (by repeat (first | (with_reducible first | exact HK.out | apply KeepBut.set_ | apply keep_drewN | apply keep_drew | apply keep_alloc) | exact HK.out)) hk (.inl rfl)); replace HB := Aside0.mk (hb); replace HI0 := Aside0.mk (hi); (try clear hb); (try clear hb2); (try clear hk); (try clear hi)))
                  go_roundg k1
                  case measure => have := HK1.out; omega
                  case rel => exact ⟨(wrap64 ((wrap64 (x4_1 * 256)) + t147)), (wrap64 (x5_1 + 1)), (t148), (by first | rfl | (simp; done) | (simp [*]; done)), (by first | rfl | (simp; done) | (simp [*]; done)), H', ⟨by have := HK1.out; omega⟩, ⟨by repeat (first | (with_reducible first | exact HI0.out | apply IsS161.alloc | apply IsS161.drewN | apply IsS161.drew | apply IsS161.set_1) | exact HI0.out)⟩, ⟨by repeat (first | (with_reducible first | exact HK.out | apply KeepBut.set_ | apply keep_drewN | apply keep_drew | apply keep_alloc) | exact HK.out)⟩, ⟨by repeat (first | (with_reducible first | exact HB.out | apply below_alloc | apply pw_below_drewN | apply below_drew1 | refine below_set ?_ (IsS161.ge HI0.out)) | exact HB.out)⟩⟩
                · rw [if_neg c30] at H
                  have c30b0 : decide (x5_1 < 4) = false := decide_eq_false c30
                  clear c30
                  replace H := Option.bind_eq_some_iff.mp H
                  obtain ⟨t149, A330, H⟩ := H
                  replace H : (some (t149, x1001_1)) = some (r1, r2) := H
                  have A33 := Aside0.mk A330
                  clear A330
                  simp only [Option.some.injEq, Prod.mk.injEq] at H
                  obtain ⟨rfl, rfl⟩ := H
                  go_wp2_with (first | ((with_reducible refine gate_callee (f := 54) rfl ?_); refine sqL (some 52) Try.func54 #[.int .i64 x4_1] ?_; (with_reducible refine (spec_NumWrap.calls x4_1 t149 _ A33.out).mono ?_); rintro e w' ⟨rfl, ⟨nd, rfl⟩⟩; refine ⟨_, rfl, ?_⟩))
                  go_ret
                  exact ⟨by first | rfl | (simp [errW_none, errW_some] <;> rfl) | (simp [*, errW_none, errW_some] <;> rfl), by repeat (first | (with_reducible first | exact HI0.out | apply IsS161.alloc | apply IsS161.drewN | apply IsS161.drew | apply IsS161.set_1) | exact HI0.out), by repeat (first | (with_reducible first | exact HB.out | apply below_alloc | apply pw_below_drewN | apply below_drew1 | refine below_set ?_ (IsS161.ge HI0.out)) | exact HB.out), by repeat (first | (with_reducible first | exact HK.out | apply KeepBut.set_ | apply keep_drewN | apply keep_drew | apply keep_alloc) | exact HK.out)⟩

/-! ### spec_l1Rd_wild: function 192 -/
theorem spec_l1Rd_wild.mono : ∀ a0 a1 k, LeO (spec_l1Rd_wild.f k a0 a1) (spec_l1Rd_wild.f (k + 1) a0 a1) := by
  intro a0 a1 k
  unfold spec_l1Rd_wild.f
  repeat' first
      | (with_reducible exact spec_l1Rd_num.mono _ _ _)
      | (with_reducible exact spec_l1Rd_pick.mono _ _ _ _)
      | (with_reducible exact LeO.refl _)
      | (with_reducible exact LeO.none _)
      | (with_reducible refine LeO.ite ?_ ?_)
      | (with_reducible refine LeO.bind ?_ (fun _ => ?_))
      | exact spec_l1Rd_num.mono _ _ _
      | exact spec_l1Rd_pick.mono _ _ _ _
      | exact LeO.none _
      | refine LeO.ite ?_ ?_
      | refine LeO.bind ?_ (fun _ => ?_)
set_option maxHeartbeats 8000000 in
set_option maxRecDepth 100000 in
theorem spec_l1Rd_wild.calls (k : Nat) (g : Nat) (s0_0 : List Int) (s0_1 : Int) (r1 : Int) (r2 : Int) (w0 w : World) (hI : IsS161 w0 w g s0_0 s0_1) (hB : Below w0.heap.size w0 w) (h : spec_l1Rd_wild.f k s0_0 s0_1 = some (r1, r2)) :
    Calls Try.prog 192 #[.pointer (some ⟨g, 0, none⟩)] w fun e w' => e = .returned (.int .i64 r1) ∧ IsS161 w0 w' g s0_0 r2 ∧ Below w0.heap.size w0 w' ∧ KeepBut w w' g none := by
  have HI0 := Aside0.mk hI
  have HK := Aside0.mk (KeepBut.refl w g none)
  have HL := Aside0.mk hB.size
  clear hI
  have HW0 := Aside0.mk hB.size
  have HB := Aside0.mk hB
  clear hB
  have H : ((spec_l1Rd_pick.f k s0_0 s0_1 12).bind fun bt150 => (if bt150.1 = 0 then ((spec_l1Rd_pick.f k s0_0 bt150.2 3).bind fun bt152 => (some (wrap64 (2147483648 + bt152.1), bt152.2))) else (if bt150.1 = 1 then ((spec_l1Rd_pick.f k s0_0 bt150.2 3).bind fun bt154 => (some (wrap64 ((-2147483649) - bt154.1), bt154.2))) else (if bt150.1 = 2 then ((spec_l1Rd_pick.f k s0_0 bt150.2 2).bind fun bt156 => (some (wrap64 (9223372036854775807 - bt156.1), bt156.2))) else (if bt150.1 = 3 then ((spec_l1Rd_pick.f k s0_0 bt150.2 2).bind fun bt158 => (some (wrap64 ((-9223372036854775808) + bt158.1), bt158.2))) else ((spec_l1Rd_num.f k s0_0 bt150.2).bind fun bt160 => (some (bt160.1, bt160.2)))))))) = some (r1, r2) := h
  clear h
  replace H := Option.bind_eq_some_iff.mp H
  obtain ⟨⟨t150, t151⟩, A20, H⟩ := H
  replace H : (if t150 = 0 then ((spec_l1Rd_pick.f k s0_0 t151 3).bind fun bt152 => (some (wrap64 (2147483648 + bt152.1), bt152.2))) else (if t150 = 1 then ((spec_l1Rd_pick.f k s0_0 t151 3).bind fun bt154 => (some (wrap64 ((-2147483649) - bt154.1), bt154.2))) else (if t150 = 2 then ((spec_l1Rd_pick.f k s0_0 t151 2).bind fun bt156 => (some (wrap64 (9223372036854775807 - bt156.1), bt156.2))) else (if t150 = 3 then ((spec_l1Rd_pick.f k s0_0 t151 2).bind fun bt158 => (some (wrap64 ((-9223372036854775808) + bt158.1), bt158.2))) else ((spec_l1Rd_num.f k s0_0 t151).bind fun bt160 => (some (bt160.1, bt160.2))))))) = some (r1, r2) := H
  have A2 := Aside0.mk A20
  clear A20
  by_cases c3 : t150 = 0
  · rw [if_pos c3] at H
    have c3b0 : (t150 == 0) = true := beq_iff_eq.mpr c3
    have c3b1 : (t150 != 0) = false := bne_eq_false_iff_eq.mpr c3
    clear c3
    replace H := Option.bind_eq_some_iff.mp H
    obtain ⟨⟨t152, t153⟩, A40, H⟩ := H
    replace H : (some (wrap64 (2147483648 + t152), t153)) = some (r1, r2) := H
    have A4 := Aside0.mk A40
    clear A40
    simp only [Option.some.injEq, Prod.mk.injEq] at H
    obtain ⟨rfl, rfl⟩ := H
    go_enter Try.func192, Try.ntmps192
    go_wp2_with (first | ((with_reducible refine gate_callee (f := 109) rfl ?_); refine sqL (some 5) Try.func109 #[.pointer (some ⟨g, 0, none⟩), .int .i64 12] ?_; (with_reducible refine (spec_l1Rd_pick.calls k g s0_0 s0_1 12 t150 t151 w0 _ ?side1 ?side2 A2.out).mono ?_); (case side1 => repeat (first | (with_reducible first | exact HI0.out | apply IsS161.alloc | apply IsS161.drewN | apply IsS161.drew | apply IsS161.set_1) | exact HI0.out)); (case side2 => repeat (first | (with_reducible first | exact HB.out | apply below_alloc | apply pw_below_drewN | apply below_drew1 | refine below_set ?_ (IsS161.ge HI0.out)) | exact HB.out)); rintro e w5 ⟨rfl, hi, hb, hk⟩; refine ⟨_, rfl, ?_⟩; replace HK := Aside0.mk (KeepBut.trans (by repeat (first | (with_reducible first | exact HK.out | apply KeepBut.set_ | apply keep_drewN | apply keep_drew | apply keep_alloc) | exact HK.out)) hk (.inl rfl)); replace HB := Aside0.mk (hb); replace HI0 := Aside0.mk (hi); (try clear hb); (try clear hb2); (try clear hk); (try clear hi)) | ((with_reducible refine gate_callee (f := 109) rfl ?_); refine sqL (some 9) Try.func109 #[.pointer (some ⟨g, 0, none⟩), .int .i64 3] ?_; (with_reducible refine (spec_l1Rd_pick.calls k g s0_0 t151 3 t152 t153 w0 _ ?side1 ?side2 A4.out).mono ?_); (case side1 => repeat (first | (with_reducible first | exact HI0.out | apply IsS161.alloc | apply IsS161.drewN | apply IsS161.drew | apply IsS161.set_1) | exact HI0.out)); (case side2 => repeat (first | (with_reducible first | exact HB.out | apply below_alloc | apply pw_below_drewN | apply below_drew1 | refine below_set ?_ (IsS161.ge HI0.out)) | exact HB.out)); rintro e w6 ⟨rfl, hi, hb, hk⟩; refine ⟨_, rfl, ?_⟩; replace HK := Aside0.mk (KeepBut.trans (by repeat (first | (with_reducible first | exact HK.out | apply KeepBut.set_ | apply keep_drewN | apply keep_drew | apply keep_alloc) | exact HK.out)) hk (.inl rfl)); replace HB := Aside0.mk (hb); replace HI0 := Aside0.mk (hi); (try clear hb); (try clear hb2); (try clear hk); (try clear hi)))
    go_ret
    exact ⟨by first | rfl | (simp [errW_none, errW_some] <;> rfl) | (simp [*, errW_none, errW_some] <;> rfl), by repeat (first | (with_reducible first | exact HI0.out | apply IsS161.alloc | apply IsS161.drewN | apply IsS161.drew | apply IsS161.set_1) | exact HI0.out), by repeat (first | (with_reducible first | exact HB.out | apply below_alloc | apply pw_below_drewN | apply below_drew1 | refine below_set ?_ (IsS161.ge HI0.out)) | exact HB.out), by repeat (first | (with_reducible first | exact HK.out | apply KeepBut.set_ | apply keep_drewN | apply keep_drew | apply keep_alloc) | exact HK.out)⟩
  · rw [if_neg c3] at H
    have c3b0 : (t150 == 0) = false := beq_eq_false_iff_ne.mpr c3
    have c3b1 : (t150 != 0) = true := bne_iff_ne.mpr c3
    by_cases c7 : t150 = 1
    · rw [if_pos c7] at H
      have c7b0 : (t150 == 1) = true := beq_iff_eq.mpr c7
      have c7b1 : (t150 != 1) = false := bne_eq_false_iff_eq.mpr c7
      clear c7
      replace H := Option.bind_eq_some_iff.mp H
      obtain ⟨⟨t154, t155⟩, A80, H⟩ := H
      replace H : (some (wrap64 ((-2147483649) - t154), t155)) = some (r1, r2) := H
      have A8 := Aside0.mk A80
      clear A80
      simp only [Option.some.injEq, Prod.mk.injEq] at H
      obtain ⟨rfl, rfl⟩ := H
      go_enter Try.func192, Try.ntmps192
      go_wp2_with (first | ((with_reducible refine gate_callee (f := 109) rfl ?_); refine sqL (some 5) Try.func109 #[.pointer (some ⟨g, 0, none⟩), .int .i64 12] ?_; (with_reducible refine (spec_l1Rd_pick.calls k g s0_0 s0_1 12 t150 t151 w0 _ ?side1 ?side2 A2.out).mono ?_); (case side1 => repeat (first | (with_reducible first | exact HI0.out | apply IsS161.alloc | apply IsS161.drewN | apply IsS161.drew | apply IsS161.set_1) | exact HI0.out)); (case side2 => repeat (first | (with_reducible first | exact HB.out | apply below_alloc | apply pw_below_drewN | apply below_drew1 | refine below_set ?_ (IsS161.ge HI0.out)) | exact HB.out)); rintro e w9 ⟨rfl, hi, hb, hk⟩; refine ⟨_, rfl, ?_⟩; replace HK := Aside0.mk (KeepBut.trans (by repeat (first | (with_reducible first | exact HK.out | apply KeepBut.set_ | apply keep_drewN | apply keep_drew | apply keep_alloc) | exact HK.out)) hk (.inl rfl)); replace HB := Aside0.mk (hb); replace HI0 := Aside0.mk (hi); (try clear hb); (try clear hb2); (try clear hk); (try clear hi)) | ((with_reducible refine gate_callee (f := 109) rfl ?_); refine sqL (some 14) Try.func109 #[.pointer (some ⟨g, 0, none⟩), .int .i64 3] ?_; (with_reducible refine (spec_l1Rd_pick.calls k g s0_0 t151 3 t154 t155 w0 _ ?side1 ?side2 A8.out).mono ?_); (case side1 => repeat (first | (with_reducible first | exact HI0.out | apply IsS161.alloc | apply IsS161.drewN | apply IsS161.drew | apply IsS161.set_1) | exact HI0.out)); (case side2 => repeat (first | (with_reducible first | exact HB.out | apply below_alloc | apply pw_below_drewN | apply below_drew1 | refine below_set ?_ (IsS161.ge HI0.out)) | exact HB.out)); rintro e w10 ⟨rfl, hi, hb, hk⟩; refine ⟨_, rfl, ?_⟩; replace HK := Aside0.mk (KeepBut.trans (by repeat (first | (with_reducible first | exact HK.out | apply KeepBut.set_ | apply keep_drewN | apply keep_drew | apply keep_alloc) | exact HK.out)) hk (.inl rfl)); replace HB := Aside0.mk (hb); replace HI0 := Aside0.mk (hi); (try clear hb); (try clear hb2); (try clear hk); (try clear hi)))
      go_ret
      exact ⟨by first | rfl | (simp [errW_none, errW_some] <;> rfl) | (simp [*, errW_none, errW_some] <;> rfl), by repeat (first | (with_reducible first | exact HI0.out | apply IsS161.alloc | apply IsS161.drewN | apply IsS161.drew | apply IsS161.set_1) | exact HI0.out), by repeat (first | (with_reducible first | exact HB.out | apply below_alloc | apply pw_below_drewN | apply below_drew1 | refine below_set ?_ (IsS161.ge HI0.out)) | exact HB.out), by repeat (first | (with_reducible first | exact HK.out | apply KeepBut.set_ | apply keep_drewN | apply keep_drew | apply keep_alloc) | exact HK.out)⟩
    · rw [if_neg c7] at H
      have c7b0 : (t150 == 1) = false := beq_eq_false_iff_ne.mpr c7
      have c7b1 : (t150 != 1) = true := bne_iff_ne.mpr c7
      by_cases c11 : t150 = 2
      · rw [if_pos c11] at H
        have c11b0 : (t150 == 2) = true := beq_iff_eq.mpr c11
        have c11b1 : (t150 != 2) = false := bne_eq_false_iff_eq.mpr c11
        clear c11
        replace H := Option.bind_eq_some_iff.mp H
        obtain ⟨⟨t156, t157⟩, A120, H⟩ := H
        replace H : (some (wrap64 (9223372036854775807 - t156), t157)) = some (r1, r2) := H
        have A12 := Aside0.mk A120
        clear A120
        simp only [Option.some.injEq, Prod.mk.injEq] at H
        obtain ⟨rfl, rfl⟩ := H
        go_enter Try.func192, Try.ntmps192
        go_wp2_with (first | ((with_reducible refine gate_callee (f := 109) rfl ?_); refine sqL (some 5) Try.func109 #[.pointer (some ⟨g, 0, none⟩), .int .i64 12] ?_; (with_reducible refine (spec_l1Rd_pick.calls k g s0_0 s0_1 12 t150 t151 w0 _ ?side1 ?side2 A2.out).mono ?_); (case side1 => repeat (first | (with_reducible first | exact HI0.out | apply IsS161.alloc | apply IsS161.drewN | apply IsS161.drew | apply IsS161.set_1) | exact HI0.out)); (case side2 => repeat (first | (with_reducible first | exact HB.out | apply below_alloc | apply pw_below_drewN | apply below_drew1 | refine below_set ?_ (IsS161.ge HI0.out)) | exact HB.out)); rintro e w13 ⟨rfl, hi, hb, hk⟩; refine ⟨_, rfl, ?_⟩; replace HK := Aside0.mk (KeepBut.trans (by repeat (first | (with_reducible first | exact HK.out | apply KeepBut.set_ | apply keep_drewN | apply keep_drew | apply keep_alloc) | exact HK.out)) hk (.inl rfl)); replace HB := Aside0.mk (hb); replace HI0 := Aside0.mk (hi); (try clear hb); (try clear hb2); (try clear hk); (try clear hi)) | ((with_reducible refine gate_callee (f := 109) rfl ?_); refine sqL (some 19) Try.func109 #[.pointer (some ⟨g, 0, none⟩), .int .i64 2] ?_; (with_reducible refine (spec_l1Rd_pick.calls k g s0_0 t151 2 t156 t157 w0 _ ?side1 ?side2 A12.out).mono ?_); (case side1 => repeat (first | (with_reducible first | exact HI0.out | apply IsS161.alloc | apply IsS161.drewN | apply IsS161.drew | apply IsS161.set_1) | exact HI0.out)); (case side2 => repeat (first | (with_reducible first | exact HB.out | apply below_alloc | apply pw_below_drewN | apply below_drew1 | refine below_set ?_ (IsS161.ge HI0.out)) | exact HB.out)); rintro e w14 ⟨rfl, hi, hb, hk⟩; refine ⟨_, rfl, ?_⟩; replace HK := Aside0.mk (KeepBut.trans (by repeat (first | (with_reducible first | exact HK.out | apply KeepBut.set_ | apply keep_drewN | apply keep_drew | apply keep_alloc) | exact HK.out)) hk (.inl rfl)); replace HB := Aside0.mk (hb); replace HI0 := Aside0.mk (hi); (try clear hb); (try clear hb2); (try clear hk); (try clear hi)))
        go_ret
        exact ⟨by first | rfl | (simp [errW_none, errW_some] <;> rfl) | (simp [*, errW_none, errW_some] <;> rfl), by repeat (first | (with_reducible first | exact HI0.out | apply IsS161.alloc | apply IsS161.drewN | apply IsS161.drew | apply IsS161.set_1) | exact HI0.out), by repeat (first | (with_reducible first | exact HB.out | apply below_alloc | apply pw_below_drewN | apply below_drew1 | refine below_set ?_ (IsS161.ge HI0.out)) | exact HB.out), by repeat (first | (with_reducible first | exact HK.out | apply KeepBut.set_ | apply keep_drewN | apply keep_drew | apply keep_alloc) | exact HK.out)⟩
      · rw [if_neg c11] at H
        have c11b0 : (t150 == 2) = false := beq_eq_false_iff_ne.mpr c11
        have c11b1 : (t150 != 2) = true := bne_iff_ne.mpr c11
        by_cases c15 : t150 = 3
        · rw [if_pos c15] at H
          have c15b0 : (t150 == 3) = true := beq_iff_eq.mpr c15
          have c15b1 : (t150 != 3) = false := bne_eq_false_iff_eq.mpr c15
          clear c15
          replace H := Option.bind_eq_some_iff.mp H
          obtain ⟨⟨t158, t159⟩, A160, H⟩ := H
          replace H : (some (wrap64 ((-9223372036854775808) + t158), t159)) = some (r1, r2) := H
          have A16 := Aside0.mk A160
          clear A160
          simp only [Option.some.injEq, Prod.mk.injEq] at H
          obtain ⟨rfl, rfl⟩ := H
          go_enter Try.func192, Try.ntmps192
          go_wp2_with (first | ((with_reducible refine gate_callee (f := 109) rfl ?_); refine sqL (some 5) Try.func109 #[.pointer (some ⟨g, 0, none⟩), .int .i64 12] ?_; (with_reducible refine (spec_l1Rd_pick.calls k g s0_0 s0_1 12 t150 t151 w0 _ ?side1 ?side2 A2.out).mono ?_); (case side1 => repeat (first | (with_reducible first | exact HI0.out | apply IsS161.alloc | apply IsS161.drewN | apply IsS161.drew | apply IsS161.set_1) | exact HI0.out)); (case side2 => repeat (first | (with_reducible first | exact HB.out | apply below_alloc | apply pw_below_drewN | apply below_drew1 | refine below_set ?_ (IsS161.ge HI0.out)) | exact HB.out)); rintro e w17 ⟨rfl, hi, hb, hk⟩; refine ⟨_, rfl, ?_⟩; replace HK := Aside0.mk (KeepBut.trans (by repeat (first | (with_reducible first | exact HK.out | apply KeepBut.set_ | apply keep_drewN | apply keep_drew | apply keep_alloc) | exact HK.out)) hk (.inl rfl)); replace HB := Aside0.mk (hb); replace HI0 := Aside0.mk (hi); (try clear hb); (try clear hb2); (try clear hk); (try clear hi)) | ((with_reducible refine gate_callee (f := 109) rfl ?_); refine sqL (some 24) Try.func109 #[.pointer (some ⟨g, 0, none⟩), .int .i64 2] ?_; (with_reducible refine (spec_l1Rd_pick.calls k g s0_0 t151 2 t158 t159 w0 _ ?side1 ?side2 A16.out).mono ?_); (case side1 => repeat (first | (with_reducible first | exact HI0.out | apply IsS161.alloc | apply IsS161.drewN | apply IsS161.drew | apply IsS161.set_1) | exact HI0.out)); (case side2 => repeat (first | (with_reducible first | exact HB.out | apply below_alloc | apply pw_below_drewN | apply below_drew1 | refine below_set ?_ (IsS161.ge HI0.out)) | exact HB.out)); rintro e w18 ⟨rfl, hi, hb, hk⟩; refine ⟨_, rfl, ?_⟩; replace HK := Aside0.mk (KeepBut.trans (by repeat (first | (with_reducible first | exact HK.out | apply KeepBut.set_ | apply keep_drewN | apply keep_drew | apply keep_alloc) | exact HK.out)) hk (.inl rfl)); replace HB := Aside0.mk (hb); replace HI0 := Aside0.mk (hi); (try clear hb); (try clear hb2); (try clear hk); (try clear hi)))
          go_ret
          exact ⟨by first | rfl | (simp [errW_none, errW_some] <;> rfl) | (simp [*, errW_none, errW_some] <;> rfl), by repeat (first | (with_reducible first | exact HI0.out | apply IsS161.alloc | apply IsS161.drewN | apply IsS161.drew | apply IsS161.set_1) | exact HI0.out), by repeat (first | (with_reducible first | exact HB.out | apply below_alloc | apply pw_below_drewN | apply below_drew1 | refine below_set ?_ (IsS161.ge HI0.out)) | exact HB.out), by repeat (first | (with_reducible first | exact HK.out | apply KeepBut.set_ | apply keep_drewN | apply keep_drew | apply keep_alloc) | exact HK.out)⟩
        · rw [if_neg c15] at H
          have c15b0 : (t150 == 3) = false := beq_eq_false_iff_ne.mpr c15
          have c15b1 : (t150 != 3) = true := bne_iff_ne.mpr c15
          replace H := Option.bind_eq_some_iff.mp H
          obtain ⟨⟨t160, t161⟩, A190, H⟩ := H
          replace H : (some (t160, t161)) = some (r1, r2) := H
          have A19 := Aside0.mk A190
          clear A190
          simp only [Option.some.injEq, Prod.mk.injEq] at H
          obtain ⟨rfl, rfl⟩ := H
          go_enter Try.func192, Try.ntmps192
          go_wp2_with (first | ((with_reducible refine gate_callee (f := 109) rfl ?_); refine sqL (some 5) Try.func109 #[.pointer (some ⟨g, 0, none⟩), .int .i64 12] ?_; (with_reducible refine (spec_l1Rd_pick.calls k g s0_0 s0_1 12 t150 t151 w0 _ ?side1 ?side2 A2.out).mono ?_); (case side1 => repeat (first | (with_reducible first | exact HI0.out | apply IsS161.alloc | apply IsS161.drewN | apply IsS161.drew | apply IsS161.set_1) | exact HI0.out)); (case side2 => repeat (first | (with_reducible first | exact HB.out | apply below_alloc | apply pw_below_drewN | apply below_drew1 | refine below_set ?_ (IsS161.ge HI0.out)) | exact HB.out)); rintro e w20 ⟨rfl, hi, hb, hk⟩; refine ⟨_, rfl, ?_⟩; replace HK := Aside0.mk (KeepBut.trans (by repeat (first | (with_reducible first | exact HK.out | apply KeepBut.set_ | apply keep_drewN | apply keep_drew | apply keep_alloc) | exact HK.out)) hk (.inl rfl)); replace HB := Aside0.mk (hb); replace HI0 := Aside0.mk (hi); (try clear hb); (try clear hb2); (try clear hk); (try clear hi)) | ((with_reducible refine gate_callee (f := 195) rfl ?_); refine sqL (some 27) Try.func195 #[.pointer (some ⟨g, 0, none⟩)] ?_; (with_reducible refine (spec_l1Rd_num.calls k g s0_0 t151 t160 t161 w0 _ ?side1 ?side2 A19.out).mono ?_); (case side1 => repeat (first | (with_reducible first | exact HI0.out | apply IsS161.alloc | apply IsS161.drewN | apply IsS161.drew | apply IsS161.set_1) | exact HI0.out)); (case side2 => repeat (first | (with_reducible first | exact HB.out | apply below_alloc | apply pw_below_drewN | apply below_drew1 | refine below_set ?_ (IsS161.ge HI0.out)) | exact HB.out)); rintro e w21 ⟨rfl, hi, hb, hk⟩; refine ⟨_, rfl, ?_⟩; replace HK := Aside0.mk (KeepBut.trans (by repeat (first | (with_reducible first | exact HK.out | apply KeepBut.set_ | apply keep_drewN | apply keep_drew | apply keep_alloc) | exact HK.out)) hk (.inl rfl)); replace HB := Aside0.mk (hb); replace HI0 := Aside0.mk (hi); (try clear hb); (try clear hb2); (try clear hk); (try clear hi)))
          go_ret
          exact ⟨by first | rfl | (simp [errW_none, errW_some] <;> rfl) | (simp [*, errW_none, errW_some] <;> rfl), by repeat (first | (with_reducible first | exact HI0.out | apply IsS161.alloc | apply IsS161.drewN | apply IsS161.drew | apply IsS161.set_1) | exact HI0.out), by repeat (first | (with_reducible first | exact HB.out | apply below_alloc | apply pw_below_drewN | apply below_drew1 | refine below_set ?_ (IsS161.ge HI0.out)) | exact HB.out), by repeat (first | (with_reducible first | exact HK.out | apply KeepBut.set_ | apply keep_drewN | apply keep_drew | apply keep_alloc) | exact HK.out)⟩

/-! ### spec_l8Max: function 122 -/
set_option maxHeartbeats 8000000 in
set_option maxRecDepth 100000 in
theorem spec_l8Max.calls (a0 : Int) (a1 : Int) (r : Int) (w : World) (h : spec_l8Max.f a0 a1 = some r) :
    Calls Try.prog 122 #[.int .i64 a0, .int .i64 a1] w fun e w' => e = .returned (.int .i64 r) ∧ Drawn0 w w' := by
  have H : (if a0 > a1 then (some a0) else (some a1)) = some r := h
  clear h
  by_cases c3 : a0 > a1
  · rw [if_pos c3] at H
    have c3b0 : decide (a1 < a0) = true := decide_eq_true c3
    clear c3
    obtain rfl := Option.some.inj H
    go_enter Try.func122, Try.ntmps122
    go_wp2
    go_ret
    exact ⟨by first | rfl | (simp; done) | (simp [*]; done), by repeat (first | exact Drawn0.refl _ | apply Drawn0.step)⟩
  · rw [if_neg c3] at H
    have c3b0 : decide (a1 < a0) = false := decide_eq_false c3
    clear c3
    obtain rfl := Option.some.inj H
    go_enter Try.func122, Try.ntmps122
    go_wp2
    go_ret
    exact ⟨by first | rfl | (simp; done) | (simp [*]; done), by repeat (first | exact Drawn0.refl _ | apply Drawn0.step)⟩

/-! ### spec_l8Min: function 134 -/
set_option maxHeartbeats 8000000 in
set_option maxRecDepth 100000 in
theorem spec_l8Min.calls (a0 : Int) (a1 : Int) (r : Int) (w : World) (h : spec_l8Min.f a0 a1 = some r) :
    Calls Try.prog 134 #[.int .i64 a0, .int .i64 a1] w fun e w' => e = .returned (.int .i64 r) ∧ Drawn0 w w' := by
  have H : (if a0 < a1 then (some a0) else (some a1)) = some r := h
  clear h
  by_cases c3 : a0 < a1
  · rw [if_pos c3] at H
    have c3b0 : decide (a0 < a1) = true := decide_eq_true c3
    clear c3
    obtain rfl := Option.some.inj H
    go_enter Try.func134, Try.ntmps134
    go_wp2
    go_ret
    exact ⟨by first | rfl | (simp; done) | (simp [*]; done), by repeat (first | exact Drawn0.refl _ | apply Drawn0.step)⟩
  · rw [if_neg c3] at H
    have c3b0 : decide (a0 < a1) = false := decide_eq_false c3
    clear c3
    obtain rfl := Option.some.inj H
    go_enter Try.func134, Try.ntmps134
    go_wp2
    go_ret
    exact ⟨by first | rfl | (simp; done) | (simp [*]; done), by repeat (first | exact Drawn0.refl _ | apply Drawn0.step)⟩

/-! ### spec_l8Cut: function 133 -/
set_option maxHeartbeats 8000000 in
set_option maxRecDepth 100000 in
theorem spec_l8Cut.calls (a0 : Int) (a1 : Int) (r1 : Int) (r2 : Int) (w : World) (h : spec_l8Cut.f a0 a1 = some (r1, r2)) :
    Calls Try.prog 133 #[.int .i64 a0, .int .i64 a1] w fun e w' => e = .returned (.agg #[.int .i64 r1, .int .i64 r2]) ∧ Below w.heap.size w w' := by
  have hu24 := Try.underlying24
  have HB := Aside0.mk (Below.refl w.heap.size w)
  have H : ((spec_l8Max.f a0 (-2147483648)).bind fun t163 => ((spec_l8Min.f a1 2147483647).bind fun t164 => (if t163 > t164 then ((spec_l8None.f).bind fun bt165 => (some (bt165.1, bt165.2))) else (some (t163, t164))))) = some (r1, r2) := h
  clear h
  replace H := Option.bind_eq_some_iff.mp H
  obtain ⟨t163, A30, H⟩ := H
  replace H : ((spec_l8Min.f a1 2147483647).bind fun t164 => (if t163 > t164 then ((spec_l8None.f).bind fun bt165 => (some (bt165.1, bt165.2))) else (some (t163, t164)))) = some (r1, r2) := H
  have A3 := Aside0.mk A30
  clear A30
  replace H := Option.bind_eq_some_iff.mp H
  obtain ⟨t164, A40, H⟩ := H
  replace H : (if t163 > t164 then ((spec_l8None.f).bind fun bt165 => (some (bt165.1, bt165.2))) else (some (t163, t164))) = some (r1, r2) := H
  have A4 := Aside0.mk A40
  clear A40
  by_cases c5 : t163 > t164
  · rw [if_pos c5] at H
    have c5b0 : decide (t164 < t163) = true := decide_eq_true c5
    clear c5
    replace H := Option.bind_eq_some_iff.mp H
    obtain ⟨⟨t165, t166⟩, A60, H⟩ := H
    replace H : (some (t165, t166)) = some (r1, r2) := H
    have A6 := Aside0.mk A60
    clear A60
    simp only [Option.some.injEq, Prod.mk.injEq] at H
    obtain ⟨rfl, rfl⟩ := H
    go_enter Try.func133, Try.ntmps133
    go_wp2_with (first | ((with_reducible refine gate_dst (N := 4) rfl ?_); refine sqx 4 #[.int .i64 0, .int .i64 0] 24 ?_; intro gb162 hg w7 hbox hb; have BK162 := Aside0.mk (hbox); have GW162 := sqg HB hg; have GE162 := sqg HB hg; replace HB := sqs HB hb; clear hb hbox hg) | ((with_reducible refine gate_callee (f := 122) rfl ?_); refine sqL (some 8) Try.func122 #[.int .i64 a0, .int .i64 (-2147483648)] ?_; (with_reducible refine (spec_l8Max.calls a0 (-2147483648) t163 _ A3.out).mono ?_); rintro e w' ⟨rfl, ⟨nd, rfl⟩⟩; refine ⟨_, rfl, ?_⟩; (try (rw [drewN_self w7]; generalize hq_ : World.drewN w7 _ = w7; replace BK162 := sqq BK162 hq_; replace HB := sqr HB hq_; clear hq_; obtain ⟨hqz1_0, hqz1_1, hqf1_0, hqf1_1⟩ := sqc2 BK162))) | ((with_reducible refine gate_callee (f := 134) rfl ?_); refine sqL (some 10) Try.func134 #[.int .i64 a1, .int .i64 2147483647] ?_; (with_reducible refine (spec_l8Min.calls a1 2147483647 t164 _ A4.out).mono ?_); rintro e w' ⟨rfl, ⟨nd, rfl⟩⟩; refine ⟨_, rfl, ?_⟩; (try (rw [drewN_self w7]; generalize hq_ : World.drewN w7 _ = w7; replace BK162 := sqq BK162 hq_; replace HB := sqr HB hq_; clear hq_; obtain ⟨hqz2_0, hqz2_1, hqf2_0, hqf2_1⟩ := sqc2 BK162))) | ((with_reducible refine gate_callee (f := 99) rfl ?_); refine sqL (some 14) Try.func99 #[] ?_; (with_reducible refine (spec_l8None.calls  t165 t166 _ A6.out).mono ?_); rintro e w8 ⟨rfl, hb⟩; refine ⟨_, rfl, ?_⟩; replace BK162 := sqb BK162 hb; replace HB := sqs HB hb; (try clear hb); obtain ⟨hcz9_0, hcz9_1, hfz9_0, hfz9_1⟩ := sqc2 BK162))
    refine bodyPost_ret (results_cell_row rfl _ _ gb162 24 #[.int .i64 t165, .int .i64 t166] (0, 0) _ rfl (by refine sqt ?_; refine blk_put (cs := #[.int .i64 t165, .int .i64 0]) ?_ 1 _ rfl; refine sqt ?_; refine blk_put (cs := #[.int .i64 0, .int .i64 0]) ?_ 0 _ rfl; refine sqt ?_; exact BK162.out) Try.underlying24 rfl (by kernel_rfl)) rfl ?_
    exact sqe HB
  · rw [if_neg c5] at H
    have c5b0 : decide (t164 < t163) = false := decide_eq_false c5
    clear c5
    simp only [Option.some.injEq, Prod.mk.injEq] at H
    obtain ⟨rfl, rfl⟩ := H
    go_enter Try.func133, Try.ntmps133
    go_wp2_with (first | ((with_reducible refine gate_dst (N := 4) rfl ?_); refine sqx 4 #[.int .i64 0, .int .i64 0] 24 ?_; intro gb162 hg w10 hbox hb; have BK162 := Aside0.mk (hbox); have GW162 := sqg HB hg; have GE162 := sqg HB hg; replace HB := sqs HB hb; clear hb hbox hg) | ((with_reducible refine gate_callee (f := 122) rfl ?_); refine sqL (some 8) Try.func122 #[.int .i64 a0, .int .i64 (-2147483648)] ?_; (with_reducible refine (spec_l8Max.calls a0 (-2147483648) t163 _ A3.out).mono ?_); rintro e w' ⟨rfl, ⟨nd, rfl⟩⟩; refine ⟨_, rfl, ?_⟩; (try (rw [drewN_self w10]; generalize hq_ : World.drewN w10 _ = w10; replace BK162 := sqq BK162 hq_; replace HB := sqr HB hq_; clear hq_; obtain ⟨hqz3_0, hqz3_1, hqf3_0, hqf3_1⟩ := sqc2 BK162))) | ((with_reducible refine gate_callee (f := 134) rfl ?_); refine sqL (some 10) Try.func134 #[.int .i64 a1, .int .i64 2147483647] ?_; (with_reducible refine (spec_l8Min.calls a1 2147483647 t164 _ A4.out).mono ?_); rintro e w' ⟨rfl, ⟨nd, rfl⟩⟩; refine ⟨_, rfl, ?_⟩; (try (rw [drewN_self w10]; generalize hq_ : World.drewN w10 _ = w10; replace BK162 := sqq BK162 hq_; replace HB := sqr HB hq_; clear hq_; obtain ⟨hqz4_0, hqz4_1, hqf4_0, hqf4_1⟩ := sqc2 BK162)); obtain ⟨hcz11_0, hcz11_1, hfz11_0, hfz11_1⟩ := sqc2 BK162))
    refine bodyPost_ret (results_cell_row rfl _ _ gb162 24 #[.int .i64 t163, .int .i64 t164] (0, 0) _ rfl (by refine sqt ?_; refine blk_put (cs := #[.int .i64 t163, .int .i64 0]) ?_ 1 _ rfl; refine sqt ?_; refine blk_put (cs := #[.int .i64 0, .int .i64 0]) ?_ 0 _ rfl; refine sqt ?_; exact BK162.out) Try.underlying24 rfl (by kernel_rfl)) rfl ?_
    exact sqe HB

/-! ### spec_l8Range: function 193 -/
theorem spec_l8Range.mono : ∀ a0 a1 k, LeO (spec_l8Range.f k a0 a1) (spec_l8Range.f (k + 1) a0 a1) := by
  intro a0 a1 k
  unfold spec_l8Range.f
  repeat' first
      | (with_reducible exact spec_l1Rd_num.mono _ _ _)
      | (with_reducible exact spec_l1Rd_pick.mono _ _ _ _)
      | (with_reducible exact LeO.refl _)
      | (with_reducible exact LeO.none _)
      | (with_reducible refine LeO.ite ?_ ?_)
      | (with_reducible refine LeO.bind ?_ (fun _ => ?_))
      | exact spec_l1Rd_num.mono _ _ _
      | exact spec_l1Rd_pick.mono _ _ _ _
      | exact LeO.none _
      | refine LeO.ite ?_ ?_
      | refine LeO.bind ?_ (fun _ => ?_)
set_option maxHeartbeats 8000000 in
set_option maxRecDepth 100000 in
theorem spec_l8Range.calls (k : Nat) (g : Nat) (s0_0 : List Int) (s0_1 : Int) (r1 : Int) (r2 : Int) (r3 : Int) (w0 w : World) (hI : IsS161 w0 w g s0_0 s0_1) (hB : Below w0.heap.size w0 w) (h : spec_l8Range.f k s0_0 s0_1 = some (r1, r2, r3)) :
    Calls Try.prog 193 #[.pointer (some ⟨g, 0, none⟩)] w fun e w' => e = .returned (.agg #[.int .i64 r1, .int .i64 r2]) ∧ IsS161 w0 w' g s0_0 r3 ∧ Below w0.heap.size w0 w' ∧ KeepBut w w' g none := by
  have hu24 := Try.underlying24
  have HI0 := Aside0.mk hI
  have HK := Aside0.mk (KeepBut.refl w g none)
  have HL := Aside0.mk hB.size
  clear hI
  have HW0 := Aside0.mk hB.size
  have HB := Aside0.mk hB
  clear hB
  have H : ((spec_l1Rd_pick.f k s0_0 s0_1 12).bind fun bt168 => (if bt168.1 = 0 then ((spec_l8None.f).bind fun bt170 => (some (bt170.1, bt170.2, bt168.2))) else ((spec_l1Rd_num.f k s0_0 bt168.2).bind fun bt172 => (if bt168.1 < 3 then (some (bt172.1, bt172.1, bt172.2)) else (if bt168.1 < 7 then ((spec_l1Rd_pick.f k s0_0 bt172.2 40).bind fun bt174 => ((spec_l8Cut.f bt172.1 (wrap64 (bt172.1 + bt174.1))).bind fun bt176 => (some (bt176.1, bt176.2, bt174.2)))) else (if bt168.1 = 7 then (some ((-2147483648), 2147483647, bt172.2)) else ((spec_l1Rd_num.f k s0_0 bt172.2).bind fun bt178 => ((spec_l8Min.f bt172.1 bt178.1).bind fun t180 => ((spec_l8Max.f bt172.1 bt178.1).bind fun t181 => ((spec_l8Cut.f t180 t181).bind fun bt182 => (some (bt182.1, bt182.2, bt178.2)))))))))))) = some (r1, r2, r3) := h
  clear h
  replace H := Option.bind_eq_some_iff.mp H
  obtain ⟨⟨t168, t169⟩, A20, H⟩ := H
  replace H : (if t168 = 0 then ((spec_l8None.f).bind fun bt170 => (some (bt170.1, bt170.2, t169))) else ((spec_l1Rd_num.f k s0_0 t169).bind fun bt172 => (if t168 < 3 then (some (bt172.1, bt172.1, bt172.2)) else (if t168 < 7 then ((spec_l1Rd_pick.f k s0_0 bt172.2 40).bind fun bt174 => ((spec_l8Cut.f bt172.1 (wrap64 (bt172.1 + bt174.1))).bind fun bt176 => (some (bt176.1, bt176.2, bt174.2)))) else (if t168 = 7 then (some ((-2147483648), 2147483647, bt172.2)) else ((spec_l1Rd_num.f k s0_0 bt172.2).bind fun bt178 => ((spec_l8Min.f bt172.1 bt178.1).bind fun t180 => ((spec_l8Max.f bt172.1 bt178.1).bind fun t181 => ((spec_l8Cut.f t180 t181).bind fun bt182 => (some (bt182.1, bt182.2, bt178.2))))))))))) = some (r1, r2, r3) := H
  have A2 := Aside0.mk A20
  clear A20
  by_cases c3 : t168 = 0
  · rw [if_pos c3] at H
    have c3b0 : (t168 == 0) = true := beq_iff_eq.mpr c3
    have c3b1 : (t168 != 0) = false := bne_eq_false_iff_eq.mpr c3
    clear c3
    replace H := Option.bind_eq_some_iff.mp H
    obtain ⟨⟨t170, t171⟩, A40, H⟩ := H
    replace H : (some (t170, t171, t169)) = some (r1, r2, r3) := H
    have A4 := Aside0.mk A40
    clear A40
    simp only [Option.some.injEq, Prod.mk.injEq] at H
    obtain ⟨rfl, rfl, rfl⟩ := H
    go_enter Try.func193, Try.ntmps193
    go_wp2_with (first | ((with_reducible refine gate_dst (N := 2) rfl ?_); refine sqx 2 #[.int .i64 0, .int .i64 0] 24 ?_; intro gb167 hg w5 hbox hb; have n0_ := Aside0.mk (IsS161.below (by repeat (first | (with_reducible first | exact HI0.out | apply IsS161.alloc | apply IsS161.drewN | apply IsS161.drew | apply IsS161.set_1) | exact HI0.out)) hb); have n1_ := Aside0.mk (KeepBut.trans (by repeat (first | (with_reducible first | exact HK.out | apply KeepBut.set_ | apply keep_drewN | apply keep_drew | apply keep_alloc) | exact HK.out)) (KeepBut.of_below hb g none) (.inl rfl)); have n2_ := Aside0.mk (below_step (by repeat (first | (with_reducible first | exact HB.out | apply below_alloc | apply pw_below_drewN | apply below_drew1 | refine below_set ?_ (IsS161.ge HI0.out)) | exact HB.out)) hb); have n3_ := Aside0.mk (hbox); have n4_ := Aside0.mk ((by rw [hg]; exact (keep_size (w := w) (g := g) (row := none) (by repeat (first | (with_reducible first | exact HK.out | apply KeepBut.set_ | apply keep_drewN | apply keep_drew | apply keep_alloc) | exact HK.out))) : w.heap.size ≤ gb167)); have n5_ := Aside0.mk ((Nat.le_trans HW0.out (by rw [hg]; exact (keep_size (w := w) (g := g) (row := none) (by repeat (first | (with_reducible first | exact HK.out | apply KeepBut.set_ | apply keep_drewN | apply keep_drew | apply keep_alloc) | exact HK.out))) : w.heap.size ≤ gb167) : w0.heap.size ≤ gb167)); have n6_ := Aside0.mk ((by rw [hg]; exact Nat.ne_of_lt (IsS161.lt (show IsS161 w0 _ g s0_0 s0_1 from by repeat (first | (with_reducible first | exact HI0.out | apply IsS161.alloc | apply IsS161.drewN | apply IsS161.drew | apply IsS161.set_1) | exact HI0.out))) : g ≠ gb167)); have n7_ := Aside0.mk ((by rw [hg]; exact Nat.ne_of_gt (IsS161.lt (show IsS161 w0 _ g s0_0 s0_1 from by repeat (first | (with_reducible first | exact HI0.out | apply IsS161.alloc | apply IsS161.drewN | apply IsS161.drew | apply IsS161.set_1) | exact HI0.out))) : gb167 ≠ g)); clear HI0; clear HK; clear HB; have HI0 := n0_; have HK := n1_; have HB := n2_; have BK167 := n3_; have GW167 := n4_; have GE167 := n5_; have NB0_167 := n6_; have NB167_0 := n7_; clear n0_ n1_ n2_ n3_ n4_ n5_ n6_ n7_; clear hb hbox hg) | ((with_reducible refine gate_callee (f := 109) rfl ?_); refine sqL (some 7) Try.func109 #[.pointer (some ⟨g, 0, none⟩), .int .i64 12] ?_; (with_reducible refine (spec_l1Rd_pick.calls k g s0_0 s0_1 12 t168 t169 w0 _ ?side1 ?side2 A2.out).mono ?_); (case side1 => repeat (first | (with_reducible first | exact HI0.out | apply IsS161.alloc | apply IsS161.drewN | apply IsS161.drew | apply IsS161.set_1 | refine IsS161.far ?_ NB0_167.out _) | exact HI0.out)); (case side2 => repeat (first | (with_reducible first | exact HB.out | apply below_alloc | apply pw_below_drewN | apply below_drew1 | refine below_set ?_ (IsS161.ge HI0.out) | refine below_set ?_ GE167.out) | exact HB.out)); rintro e w6 ⟨rfl, hi, hb, hk⟩; refine ⟨_, rfl, ?_⟩; have n0_ := Aside0.mk (KeepBut.blk hk (g' := gb167) (o := .cells #[.int .i64 0, .int .i64 0] 24 (0, 0)) (by refine sqt ?_; exact BK167.out) NB167_0.out (by simp)); have n1_ := Aside0.mk (KeepBut.trans (by repeat (first | (with_reducible first | exact HK.out | apply KeepBut.set_ | apply keep_drewN | apply keep_drew | apply keep_alloc | refine keep_far ?_ GW167.out _) | exact HK.out)) hk (.inl rfl)); have n2_ := Aside0.mk (hb); have n3_ := Aside0.mk (hi); clear BK167; clear HK; clear HB; clear HI0; have BK167 := n0_; have HK := n1_; have HB := n2_; have HI0 := n3_; clear n0_ n1_ n2_ n3_; (try clear hb); (try clear hb2); (try clear hk); (try clear hi)) | ((with_reducible refine gate_callee (f := 99) rfl ?_); refine sqL (some 10) Try.func99 #[] ?_; (with_reducible refine (spec_l8None.calls  t170 t171 _ A4.out).mono ?_); rintro e w7 ⟨rfl, hb⟩; refine ⟨_, rfl, ?_⟩; have n0_ := Aside0.mk (IsS161.below (by repeat (first | (with_reducible first | exact HI0.out | apply IsS161.alloc | apply IsS161.drewN | apply IsS161.drew | apply IsS161.set_1 | refine IsS161.far ?_ NB0_167.out _) | exact HI0.out)) hb); have n1_ := sqb BK167 hb; have n2_ := Aside0.mk (KeepBut.trans (by repeat (first | (with_reducible first | exact HK.out | apply KeepBut.set_ | apply keep_drewN | apply keep_drew | apply keep_alloc | refine keep_far ?_ GW167.out _) | exact HK.out)) (KeepBut.of_below hb g none) (.inl rfl)); have n3_ := Aside0.mk (below_step (by repeat (first | (with_reducible first | exact HB.out | apply below_alloc | apply pw_below_drewN | apply below_drew1 | refine below_set ?_ (IsS161.ge HI0.out) | refine below_set ?_ GE167.out) | exact HB.out)) hb); clear HI0; clear BK167; clear HK; clear HB; have HI0 := n0_; have BK167 := n1_; have HK := n2_; have HB := n3_; clear n0_ n1_ n2_ n3_; (try clear hb); have hnb8 := NB167_0.out; have hnc8 := NB0_167.out; obtain ⟨hcz9_0, hcz9_1, hfz9_0, hfz9_1⟩ := sqc2 BK167))
    refine bodyPost_ret (results_cell_row rfl _ _ gb167 24 #[.int .i64 t170, .int .i64 t171] (0, 0) _ rfl (by refine sqt ?_; refine blk_put (cs := #[.int .i64 t170, .int .i64 0]) ?_ 1 _ rfl; refine sqt ?_; refine blk_put (cs := #[.int .i64 0, .int .i64 0]) ?_ 0 _ rfl; refine sqt ?_; exact BK167.out) Try.underlying24 rfl (by kernel_rfl)) rfl ?_
    exact ⟨by first | rfl | (simp [errW_none, errW_some] <;> rfl) | (simp [*, errW_none, errW_some] <;> rfl), by repeat (first | (with_reducible first | exact HI0.out | apply IsS161.alloc | apply IsS161.drewN | apply IsS161.drew | apply IsS161.set_1 | refine IsS161.far ?_ NB0_167.out _) | exact HI0.out), by repeat (first | (with_reducible first | exact HB.out | apply below_alloc | apply pw_below_drewN | apply below_drew1 | refine below_set ?_ (IsS161.ge HI0.out) | refine below_set ?_ GE167.out) | exact HB.out), by repeat (first | (with_reducible first | exact HK.out | apply KeepBut.set_ | apply keep_drewN | apply keep_drew | apply keep_alloc | refine keep_far ?_ GW167.out _) | exact HK.out)⟩
  · rw [if_neg c3] at H
    have c3b0 : (t168 == 0) = false := beq_eq_false_iff_ne.mpr c3
    have c3b1 : (t168 != 0) = true := bne_iff_ne.mpr c3
    replace H := Option.bind_eq_some_iff.mp H
    obtain ⟨⟨t172, t173⟩, A100, H⟩ := H
    replace H : (if t168 < 3 then (some (t172, t172, t173)) else (if t168 < 7 then ((spec_l1Rd_pick.f k s0_0 t173 40).bind fun bt174 => ((spec_l8Cut.f t172 (wrap64 (t172 + bt174.1))).bind fun bt176 => (some (bt176.1, bt176.2, bt174.2)))) else (if t168 = 7 then (some ((-2147483648), 2147483647, t173)) else ((spec_l1Rd_num.f k s0_0 t173).bind fun bt178 => ((spec_l8Min.f t172 bt178.1).bind fun t180 => ((spec_l8Max.f t172 bt178.1).bind fun t181 => ((spec_l8Cut.f t180 t181).bind fun bt182 => (some (bt182.1, bt182.2, bt178.2))))))))) = some (r1, r2, r3) := H
    have A10 := Aside0.mk A100
    clear A100
    by_cases c11 : t168 < 3
    · rw [if_pos c11] at H
      have c11b0 : decide (t168 < 3) = true := decide_eq_true c11
      clear c11
      simp only [Option.some.injEq, Prod.mk.injEq] at H
      obtain ⟨rfl, rfl, rfl⟩ := H
      go_enter Try.func193, Try.ntmps193
      go_wp2_with (first | ((with_reducible refine gate_dst (N := 2) rfl ?_); refine sqx 2 #[.int .i64 0, .int .i64 0] 24 ?_; intro gb167 hg w12 hbox hb; have n0_ := Aside0.mk (IsS161.below (by repeat (first | (with_reducible first | exact HI0.out | apply IsS161.alloc | apply IsS161.drewN | apply IsS161.drew | apply IsS161.set_1) | exact HI0.out)) hb); have n1_ := Aside0.mk (KeepBut.trans (by repeat (first | (with_reducible first | exact HK.out | apply KeepBut.set_ | apply keep_drewN | apply keep_drew | apply keep_alloc) | exact HK.out)) (KeepBut.of_below hb g none) (.inl rfl)); have n2_ := Aside0.mk (below_step (by repeat (first | (with_reducible first | exact HB.out | apply below_alloc | apply pw_below_drewN | apply below_drew1 | refine below_set ?_ (IsS161.ge HI0.out)) | exact HB.out)) hb); have n3_ := Aside0.mk (hbox); have n4_ := Aside0.mk ((by rw [hg]; exact (keep_size (w := w) (g := g) (row := none) (by repeat (first | (with_reducible first | exact HK.out | apply KeepBut.set_ | apply keep_drewN | apply keep_drew | apply keep_alloc) | exact HK.out))) : w.heap.size ≤ gb167)); have n5_ := Aside0.mk ((Nat.le_trans HW0.out (by rw [hg]; exact (keep_size (w := w) (g := g) (row := none) (by repeat (first | (with_reducible first | exact HK.out | apply KeepBut.set_ | apply keep_drewN | apply keep_drew | apply keep_alloc) | exact HK.out))) : w.heap.size ≤ gb167) : w0.heap.size ≤ gb167)); have n6_ := Aside0.mk ((by rw [hg]; exact Nat.ne_of_lt (IsS161.lt (show IsS161 w0 _ g s0_0 s0_1 from by repeat (first | (with_reducible first | exact HI0.out | apply IsS161.alloc | apply IsS161.drewN | apply IsS161.drew | apply IsS161.set_1) | exact HI0.out))) : g ≠ gb167)); have n7_ := Aside0.mk ((by rw [hg]; exact Nat.ne_of_gt (IsS161.lt (show IsS161 w0 _ g s0_0 s0_1 from by repeat (first | (with_reducible first | exact HI0.out | apply IsS161.alloc | apply IsS161.drewN | apply IsS161.drew | apply IsS161.set_1) | exact HI0.out))) : gb167 ≠ g)); clear HI0; clear HK; clear HB; have HI0 := n0_; have HK := n1_; have HB := n2_; have BK167 := n3_; have GW167 := n4_; have GE167 := n5_; have NB0_167 := n6_; have NB167_0 := n7_; clear n0_ n1_ n2_ n3_ n4_ n5_ n6_ n7_; clear hb hbox hg) | ((with_reducible refine gate_callee (f := 109) rfl ?_); refine sqL (some 7) Try.func109 #[.pointer (some ⟨g, 0, none⟩), .int .i64 12] ?_; (with_reducible refine (spec_l1Rd_pick.calls k g s0_0 s0_1 12 t168 t169 w0 _ ?side1 ?side2 A2.out).mono ?_); (case side1 => repeat (first | (with_reducible first | exact HI0.out | apply IsS161.alloc | apply IsS161.drewN | apply IsS161.drew | apply IsS161.set_1 | refine IsS161.far ?_ NB0_167.out _) | exact HI0.out)); (case side2 => repeat (first | (with_reducible first | exact HB.out | apply below_alloc | apply pw_below_drewN | apply below_drew1 | refine below_set ?_ (IsS161.ge HI0.out) | refine below_set ?_ GE167.out) | exact HB.out)); rintro e w13 ⟨rfl, hi, hb, hk⟩; refine ⟨_, rfl, ?_⟩; have n0_ := Aside0.mk (KeepBut.blk hk (g' := gb167) (o := .cells #[.int .i64 0, .int .i64 0] 24 (0, 0)) (by refine sqt ?_; exact BK167.out) NB167_0.out (by simp)); have n1_ := Aside0.mk (KeepBut.trans (by repeat (first | (with_reducible first | exact HK.out | apply KeepBut.set_ | apply keep_drewN | apply keep_drew | apply keep_alloc | refine keep_far ?_ GW167.out _) | exact HK.out)) hk (.inl rfl)); have n2_ := Aside0.mk (hb); have n3_ := Aside0.mk (hi); clear BK167; clear HK; clear HB; clear HI0; have BK167 := n0_; have HK := n1_; have HB := n2_; have HI0 := n3_; clear n0_ n1_ n2_ n3_; (try clear hb); (try clear hb2); (try clear hk); (try clear hi)) | ((with_reducible refine gate_callee (f := 195) rfl ?_); refine sqL (some 12) Try.func195 #[.pointer (some ⟨g, 0, none⟩)] ?_; (with_reducible refine (spec_l1Rd_num.calls k g s0_0 t169 t172 t173 w0 _ ?side1 ?side2 A10.out).mono ?_); (case side1 => repeat (first | (with_reducible first | exact HI0.out | apply IsS161.alloc | apply IsS161.drewN | apply IsS161.drew | apply IsS161.set_1 | refine IsS161.far ?_ NB0_167.out _) | exact HI0.out)); (case side2 => repeat (first | (with_reducible first | exact HB.out | apply below_alloc | apply pw_below_drewN | apply below_drew1 | refine below_set ?_ (IsS161.ge HI0.out) | refine below_set ?_ GE167.out) | exact HB.out)); rintro e w14 ⟨rfl, hi, hb, hk⟩; refine ⟨_, rfl, ?_⟩; have n0_ := Aside0.mk (KeepBut.blk hk (g' := gb167) (o := .cells #[.int .i64 0, .int .i64 0] 24 (0, 0)) (by refine sqt ?_; exact BK167.out) NB167_0.out (by simp)); have n1_ := Aside0.mk (KeepBut.trans (by repeat (first | (with_reducible first | exact HK.out | apply KeepBut.set_ | apply keep_drewN | apply keep_drew | apply keep_alloc | refine keep_far ?_ GW167.out _) | exact HK.out)) hk (.inl rfl)); have n2_ := Aside0.mk (hb); have n3_ := Aside0.mk (hi); clear BK167; clear HK; clear HB; clear HI0; have BK167 := n0_; have HK := n1_; have HB := n2_; have HI0 := n3_; clear n0_ n1_ n2_ n3_; (try clear hb); (try clear hb2); (try clear hk); (try clear hi); have hnb15 := NB167_0.out; have hnc15 := NB0_167.out; obtain ⟨hcz16_0, hcz16_1, hfz16_0, hfz16_1⟩ := sqc2 BK167))
      refine bodyPost_ret (results_cell_row rfl _ _ gb167 24 #[.int .i64 t172, .int .i64 t172] (0, 0) _ rfl (by refine sqt ?_; refine blk_put (cs := #[.int .i64 t172, .int .i64 0]) ?_ 1 _ rfl; refine sqt ?_; refine blk_put (cs := #[.int .i64 0, .int .i64 0]) ?_ 0 _ rfl; refine sqt ?_; exact BK167.out) Try.underlying24 rfl (by kernel_rfl)) rfl ?_
      exact ⟨by first | rfl | (simp [errW_none, errW_some] <;> rfl) | (simp [*, errW_none, errW_some] <;> rfl), by repeat (first | (with_reducible first | exact HI0.out | apply IsS161.alloc | apply IsS161.drewN | apply IsS161.drew | apply IsS161.set_1 | refine IsS161.far ?_ NB0_167.out _) | exact HI0.out), by repeat (first | (with_reducible first | exact HB.out | apply below_alloc | apply pw_below_drewN | apply below_drew1 | refine below_set ?_ (IsS161.ge HI0.out) | refine below_set ?_ GE167.out) | exact HB.out), by repeat (first | (with_reducible first | exact HK.out | apply KeepBut.set_ | apply keep_drewN | apply keep_drew | apply keep_alloc | refine keep_far ?_ GW167.out _) | exact HK.out)⟩
    · rw [if_neg c11] at H
      have c11b0 : decide (t168 < 3) = false := decide_eq_false c11
      clear c11
      by_cases c17 : t168 < 7
      · rw [if_pos c17] at H
        have c17b0 : decide (t168 < 7) = true := decide_eq_true c17
        clear c17
        replace H := Option.bind_eq_some_iff.mp H
        obtain ⟨⟨t174, t175⟩, A180, H⟩ := H
        replace H : ((spec_l8Cut.f t172 (wrap64 (t172 + t174))).bind fun bt176 => (some (bt176.1, bt176.2, t175))) = some (r1, r2, r3) := H
        have A18 := Aside0.mk A180
        clear A180
        replace H := Option.bind_eq_some_iff.mp H
        obtain ⟨⟨t176, t177⟩, A190, H⟩ := H
        replace H : (some (t176, t177, t175)) = some (r1, r2, r3) := H
        have A19 := Aside0.mk A190
        clear A190
        simp only [Option.some.injEq, Prod.mk.injEq] at H
        obtain ⟨rfl, rfl, rfl⟩ := H
        go_enter Try.func193, Try.ntmps193
        go_wp2_with (first | ((with_reducible refine gate_dst (N := 2) rfl ?_); refine sqx 2 #[.int .i64 0, .int .i64 0] 24 ?_; intro gb167 hg w20 hbox hb; have n0_ := Aside0.mk (IsS161.below (by repeat (first | (with_reducible first | exact HI0.out | apply IsS161.alloc | apply IsS161.drewN | apply IsS161.drew | apply IsS161.set_1) | exact HI0.out)) hb); have n1_ := Aside0.mk (KeepBut.trans (by repeat (first | (with_reducible first | exact HK.out | apply KeepBut.set_ | apply keep_drewN | apply keep_drew | apply keep_alloc) | exact HK.out)) (KeepBut.of_below hb g none) (.inl rfl)); have n2_ := Aside0.mk (below_step (by repeat (first | (with_reducible first | exact HB.out | apply below_alloc | apply pw_below_drewN | apply below_drew1 | refine below_set ?_ (IsS161.ge HI0.out)) | exact HB.out)) hb); have n3_ := Aside0.mk (hbox); have n4_ := Aside0.mk ((by rw [hg]; exact (keep_size (w := w) (g := g) (row := none) (by repeat (first | (with_reducible first | exact HK.out | apply KeepBut.set_ | apply keep_drewN | apply keep_drew | apply keep_alloc) | exact HK.out))) : w.heap.size ≤ gb167)); have n5_ := Aside0.mk ((Nat.le_trans HW0.out (by rw [hg]; exact (keep_size (w := w) (g := g) (row := none) (by repeat (first | (with_reducible first | exact HK.out | apply KeepBut.set_ | apply keep_drewN | apply keep_drew | apply keep_alloc) | exact HK.out))) : w.heap.size ≤ gb167) : w0.heap.size ≤ gb167)); have n6_ := Aside0.mk ((by rw [hg]; exact Nat.ne_of_lt (IsS161.lt (show IsS161 w0 _ g s0_0 s0_1 from by repeat (first | (with_reducible first | exact HI0.out | apply IsS161.alloc | apply IsS161.drewN | apply IsS161.drew | apply IsS161.set_1) | exact HI0.out))) : g ≠ gb167)); have n7_ := Aside0.mk ((by rw [hg]; exact Nat.ne_of_gt (IsS161.lt (show IsS161 w0 _ g s0_0 s0_1 from by repeat (first | (with_reducible first | exact HI0.out | apply IsS161.alloc | apply IsS161.drewN | apply IsS161.drew | apply IsS161.set_1) | exact HI0.out))) : gb167 ≠ g)); clear HI0; clear HK; clear HB; have HI0 := n0_; have HK := n1_; have HB := n2_; have BK167 := n3_; have GW167 := n4_; have GE167 := n5_; have NB0_167 := n6_; have NB167_0 := n7_; clear n0_ n1_ n2_ n3_ n4_ n5_ n6_ n7_; clear hb hbox hg) | ((with_reducible refine gate_callee (f := 109) rfl ?_); refine sqL (some 7) Try.func109 #[.pointer (some ⟨g, 0, none⟩), .int .i64 12] ?_; (with_reducible refine (spec_l1Rd_pick.calls k g s0_0 s0_1 12 t168 t169 w0 _ ?side1 ?side2 A2.out).mono ?_); (case side1 => repeat (first | (with_reducible first | exact HI0.out | apply IsS161.alloc | apply IsS161.drewN | apply IsS161.drew | apply IsS161.set_1 | refine IsS161.far ?_ NB0_167.out _) | exact HI0.out)); (case side2 => repeat (first | (with_reducible first | exact HB.out | apply below_alloc | apply pw_below_drewN | apply below_drew1 | refine below_set ?_ (IsS161.ge HI0.out) | refine below_set ?_ GE167.out) | exact HB.out)); rintro e w21 ⟨rfl, hi, hb, hk⟩; refine ⟨_, rfl, ?_⟩; have n0_ := Aside0.mk (KeepBut.blk hk (g' := gb167) (o := .cells #[.int .i64 0, .int .i64 0] 24 (0, 0)) (by refine sqt ?_; exact BK167.out) NB167_0.out (by simp)); have n1_ := Aside0.mk (KeepBut.trans (by repeat (first | (with_reducible first | exact HK.out | apply KeepBut.set_ | apply keep_drewN | apply keep_drew | apply keep_alloc | refine keep_far ?_ GW167.out _) | exact HK.out)) hk (.inl rfl)); have n2_ := Aside0.mk (hb); have n3_ := Aside0.mk (hi); clear BK167; clear HK; clear HB; clear HI0; have BK167 := n0_; have HK := n1_; have HB := n2_; have HI0 := n3_; clear n0_ n1_ n2_ n3_; (try clear hb); (try clear hb2); (try clear hk); (try clear hi)) | ((with_reducible refine gate_callee (f := 195) rfl ?_); refine sqL (some 12) Try.func195 #[.pointer (some ⟨g, 0, none⟩)] ?_; (with_reducible refine (spec_l1Rd_num.calls k g s0_0 t169 t172 t173 w0 _ ?side1 ?side2 A10.out).mono ?_); (case side1 => repeat (first | (with_reducible first | exact HI0.out | apply IsS161.alloc | apply IsS161.drewN | apply IsS161.drew | apply IsS161.set_1 | refine IsS161.far ?_ NB0_167.out _) | exact HI0.out)); (case side2 => repeat (first | (with_reducible first | exact HB.out | apply below_alloc | apply pw_below_drewN | apply below_drew1 | refine below_set ?_ (IsS161.ge HI0.out) | refine below_set ?_ GE167.out) | exact HB.out)); rintro e w22 ⟨rfl, hi, hb, hk⟩; refine ⟨_, rfl, ?_⟩; have n0_ := Aside0.mk (KeepBut.blk hk (g' := gb167) (o := .cells #[.int .i64 0, .int .i64 0] 24 (0, 0)) (by refine sqt ?_; exact BK167.out) NB167_0.out (by simp)); have n1_ := Aside0.mk (KeepBut.trans (by repeat (first | (with_reducible first | exact HK.out | apply KeepBut.set_ | apply keep_drewN | apply keep_drew | apply keep_alloc | refine keep_far ?_ GW167.out _) | exact HK.out)) hk (.inl rfl)); have n2_ := Aside0.mk (hb); have n3_ := Aside0.mk (hi); clear BK167; clear HK; clear HB; clear HI0; have BK167 := n0_; have HK := n1_; have HB := n2_; have HI0 := n3_; clear n0_ n1_ n2_ n3_; (try clear hb); (try clear hb2); (try clear hk); (try clear hi)) | ((with_reducible refine gate_callee (f := 109) rfl ?_); refine sqL (some 23) Try.func109 #[.pointer (some ⟨g, 0, none⟩), .int .i64 40] ?_; (with_reducible refine (spec_l1Rd_pick.calls k g s0_0 t173 40 t174 t175 w0 _ ?side1 ?side2 A18.out).mono ?_); (case side1 => repeat (first | (with_reducible first | exact HI0.out | apply IsS161.alloc | apply IsS161.drewN | apply IsS161.drew | apply IsS161.set_1 | refine IsS161.far ?_ NB0_167.out _) | exact HI0.out)); (case side2 => repeat (first | (with_reducible first | exact HB.out | apply below_alloc | apply pw_below_drewN | apply below_drew1 | refine below_set ?_ (IsS161.ge HI0.out) | refine below_set ?_ GE167.out) | exact HB.out)); rintro e w23 ⟨rfl, hi, hb, hk⟩; refine ⟨_, rfl, ?_⟩; have n0_ := Aside0.mk (KeepBut.blk hk (g' := gb167) (o := .cells #[.int .i64 0, .int .i64 0] 24 (0, 0)) (by refine sqt ?_; exact BK167.out) NB167_0.out (by simp)); have n1_ := Aside0.mk (KeepBut.trans (by repeat (first | (with_reducible first | exact HK.out | apply KeepBut.set_ | apply keep_drewN | apply keep_drew | apply keep_alloc | refine keep_far ?_ GW167.out _) | exact HK.out)) hk (.inl rfl)); have n2_ := Aside0.mk (hb); have n3_ := Aside0.mk (hi); clear BK167; clear HK; clear HB; clear HI0; have BK167 := n0_; have HK := n1_; have HB := n2_; have HI0 := n3_; clear n0_ n1_ n2_ n3_; (try clear hb); (try clear hb2); (try clear hk); (try clear hi)) | ((with_reducible refine gate_callee (f := 133) rfl ?_); refine sqL (some 25) Try.func133 #[.int .i64 t172, .int .i64 (wrap64 (t172 + t174))] ?_; (with_reducible refine (spec_l8Cut.calls t172 (wrap64 (t172 + t174)) t176 t177 _ A19.out).mono ?_); rintro e w24 ⟨rfl, hb⟩; refine ⟨_, rfl, ?_⟩; have n0_ := Aside0.mk (IsS161.below (by repeat (first | (with_reducible first | exact HI0.out | apply IsS161.alloc | apply IsS161.drewN | apply IsS161.drew | apply IsS161.set_1 | refine IsS161.far ?_ NB0_167.out _) | exact HI0.out)) hb); have n1_ := sqb BK167 hb; have n2_ := Aside0.mk (KeepBut.trans (by repeat (first | (with_reducible first | exact HK.out | apply KeepBut.set_ | apply keep_drewN | apply keep_drew | apply keep_alloc | refine keep_far ?_ GW167.out _) | exact HK.out)) (KeepBut.of_below hb g none) (.inl rfl)); have n3_ := Aside0.mk (below_step (by repeat (first | (with_reducible first | exact HB.out | apply below_alloc | apply pw_below_drewN | apply below_drew1 | refine below_set ?_ (IsS161.ge HI0.out) | refine below_set ?_ GE167.out) | exact HB.out)) hb); clear HI0; clear BK167; clear HK; clear HB; have HI0 := n0_; have BK167 := n1_; have HK := n2_; have HB := n3_; clear n0_ n1_ n2_ n3_; (try clear hb); have hnb25 := NB167_0.out; have hnc25 := NB0_167.out; obtain ⟨hcz26_0, hcz26_1, hfz26_0, hfz26_1⟩ := sqc2 BK167))
        refine bodyPost_ret (results_cell_row rfl _ _ gb167 24 #[.int .i64 t176, .int .i64 t177] (0, 0) _ rfl (by refine sqt ?_; refine blk_put (cs := #[.int .i64 t176, .int .i64 0]) ?_ 1 _ rfl; refine sqt ?_; refine blk_put (cs := #[.int .i64 0, .int .i64 0]) ?_ 0 _ rfl; refine sqt ?_; exact BK167.out) Try.underlying24 rfl (by kernel_rfl)) rfl ?_
        exact ⟨by first | rfl | (simp [errW_none, errW_some] <;> rfl) | (simp [*, errW_none, errW_some] <;> rfl), by repeat (first | (with_reducible first | exact HI0.out | apply IsS161.alloc | apply IsS161.drewN | apply IsS161.drew | apply IsS161.set_1 | refine IsS161.far ?_ NB0_167.out _) | exact HI0.out), by repeat (first | (with_reducible first | exact HB.out | apply below_alloc | apply pw_below_drewN | apply below_drew1 | refine below_set ?_ (IsS161.ge HI0.out) | refine below_set ?_ GE167.out) | exact HB.out), by repeat (first | (with_reducible first | exact HK.out | apply KeepBut.set_ | apply keep_drewN | apply keep_drew | apply keep_alloc | refine keep_far ?_ GW167.out _) | exact HK.out)⟩
      · rw [if_neg c17] at H
        have c17b0 : decide (t168 < 7) = false := decide_eq_false c17
        clear c17
        by_cases c27 : t168 = 7
        · rw [if_pos c27] at H
          have c27b0 : (t168 == 7) = true := beq_iff_eq.mpr c27
          have c27b1 : (t168 != 7) = false := bne_eq_false_iff_eq.mpr c27
          clear c27
          simp only [Option.some.injEq, Prod.mk.injEq] at H
          obtain ⟨rfl, rfl, rfl⟩ := H
          go_enter Try.func193, Try.ntmps193
          go_wp2_with (first | ((with_reducible refine gate_dst (N := 2) rfl ?_); refine sqx 2 #[.int .i64 0, .int .i64 0] 24 ?_; intro gb167 hg w28 hbox hb; have n0_ := Aside0.mk (IsS161.below (by repeat (first | (with_reducible first | exact HI0.out | apply IsS161.alloc | apply IsS161.drewN | apply IsS161.drew | apply IsS161.set_1) | exact HI0.out)) hb); have n1_ := Aside0.mk (KeepBut.trans (by repeat (first | (with_reducible first | exact HK.out | apply KeepBut.set_ | apply keep_drewN | apply keep_drew | apply keep_alloc) | exact HK.out)) (KeepBut.of_below hb g none) (.inl rfl)); have n2_ := Aside0.mk (below_step (by repeat (first | (with_reducible first | exact HB.out | apply below_alloc | apply pw_below_drewN | apply below_drew1 | refine below_set ?_ (IsS161.ge HI0.out)) | exact HB.out)) hb); have n3_ := Aside0.mk (hbox); have n4_ := Aside0.mk ((by rw [hg]; exact (keep_size (w := w) (g := g) (row := none) (by repeat (first | (with_reducible first | exact HK.out | apply KeepBut.set_ | apply keep_drewN | apply keep_drew | apply keep_alloc) | exact HK.out))) : w.heap.size ≤ gb167)); have n5_ := Aside0.mk ((Nat.le_trans HW0.out (by rw [hg]; exact (keep_size (w := w) (g := g) (row := none) (by repeat (first | (with_reducible first | exact HK.out | apply KeepBut.set_ | apply keep_drewN | apply keep_drew | apply keep_alloc) | exact HK.out))) : w.heap.size ≤ gb167) : w0.heap.size ≤ gb167)); have n6_ := Aside0.mk ((by rw [hg]; exact Nat.ne_of_lt (IsS161.lt (show IsS161 w0 _ g s0_0 s0_1 from by repeat (first | (with_reducible first | exact HI0.out | apply IsS161.alloc | apply IsS161.drewN | apply IsS161.drew | apply IsS161.set_1) | exact HI0.out))) : g ≠ gb167)); have n7_ := Aside0.mk ((by rw [hg]; exact Nat.ne_of_gt (IsS161.lt (show IsS161 w0 _ g s0_0 s0_1 from by repeat (first | (with_reducible first | exact HI0.out | apply IsS161.alloc | apply IsS161.drewN | apply IsS161.drew | apply IsS161.set_1) | exact HI0.out))) : gb167 ≠ g)); clear HI0; clear HK; clear HB; have HI0 := n0_; have HK := n1_; have HB := n2_; have BK167 := n3_; have GW167 := n4_; have GE167 := n5_; have NB0_167 := n6_; have NB167_0 := n7_; clear n0_ n1_ n2_ n3_ n4_ n5_ n6_ n7_; clear hb hbox hg) | ((with_reducible refine gate_callee (f := 109) rfl ?_); refine sqL (some 7) Try.func109 #[.pointer (some ⟨g, 0, none⟩), .int .i64 12] ?_; (with_reducible refine (spec_l1Rd_pick.calls k g s0_0 s0_1 12 t168 t169 w0 _ ?side1 ?side2 A2.out).mono ?_); (case side1 => repeat (first | (with_reducible first | exact HI0.out | apply IsS161.alloc | apply IsS161.drewN | apply IsS161.drew | apply IsS161.set_1 | refine IsS161.far ?_ NB0_167.out _) | exact HI0.out)); (case side2 => repeat (first | (with_reducible first | exact HB.out | apply below_alloc | apply pw_below_drewN | apply below_drew1 | refine below_set ?_ (IsS161.ge HI0.out) | refine below_set ?_ GE167.out) | exact HB.out)); rintro e w29 ⟨rfl, hi, hb, hk⟩; refine ⟨_, rfl, ?_⟩; have n0_ := Aside0.mk (KeepBut.blk hk (g' := gb167) (o := .cells #[.int .i64 0, .int .i64 0] 24 (0, 0)) (by refine sqt ?_; exact BK167.out) NB167_0.out (by simp)); have n1_ := Aside0.mk (KeepBut.trans (by repeat (first | (with_reducible first | exact HK.out | apply KeepBut.set_ | apply keep_drewN | apply keep_drew | apply keep_alloc | refine keep_far ?_ GW167.out _) | exact HK.out)) hk (.inl rfl)); have n2_ := Aside0.mk (hb); have n3_ := Aside0.mk (hi); clear BK167; clear HK; clear HB; clear HI0; have BK167 := n0_; have HK := n1_; have HB := n2_; have HI0 := n3_; clear n0_ n1_ n2_ n3_; (try clear hb); (try clear hb2); (try clear hk); (try clear hi)) | ((with_reducible refine gate_callee (f := 195) rfl ?_); refine sqL (some 12) Try.func195 #[.pointer (some ⟨g, 0, none⟩)] ?_; (with_reducible refine (spec_l1Rd_num.calls k g s0_0 t169 t172 t173 w0 _ ?side1 ?side2 A10.out).mono ?_); (case side1 => repeat (first | (with_reducible first | exact HI0.out | apply IsS161.alloc | apply IsS161.drewN | apply IsS161.drew | apply IsS161.set_1 | refine IsS161.far ?_ NB0_167.out _) | exact HI0.out)); (case side2 => repeat (first | (with_reducible first | exact HB.out | apply below_alloc | apply pw_below_drewN | apply below_drew1 | refine below_set ?_ (IsS161.ge HI0.out) | refine below_set ?_ GE167.out) | exact HB.out)); rintro e w30 ⟨rfl, hi, hb, hk⟩; refine ⟨_, rfl, ?_⟩; have n0_ := Aside0.mk (KeepBut.blk hk (g' := gb167) (o := .cells #[.int .i64 0, .int .i64 0] 24 (0, 0)) (by refine sqt ?_; exact BK167.out) NB167_0.out (by simp)); have n1_ := Aside0.mk (KeepBut.trans (by repeat (first | (with_reducible first | exact HK.out | apply KeepBut.set_ | apply keep_drewN | apply keep_drew | apply keep_alloc | refine keep_far ?_ GW167.out _) | exact HK.out)) hk (.inl rfl)); have n2_ := Aside0.mk (hb); have n3_ := Aside0.mk (hi); clear BK167; clear HK; clear HB; clear HI0; have BK167 := n0_; have HK := n1_; have HB := n2_; have HI0 := n3_; clear n0_ n1_ n2_ n3_; (try clear hb); (try clear hb2); (try clear hk); (try clear hi); have hnb31 := NB167_0.out; have hnc31 := NB0_167.out; obtain ⟨hcz32_0, hcz32_1, hfz32_0, hfz32_1⟩ := sqc2 BK167))
          refine bodyPost_ret (results_cell_row rfl _ _ gb167 24 #[.int .i64 (-2147483648), .int .i64 2147483647] (0, 0) _ rfl (by refine sqt ?_; refine blk_put (cs := #[.int .i64 (-2147483648), .int .i64 0]) ?_ 1 _ rfl; refine sqt ?_; refine blk_put (cs := #[.int .i64 0, .int .i64 0]) ?_ 0 _ rfl; refine sqt ?_; exact BK167.out) Try.underlying24 rfl (by kernel_rfl)) rfl ?_
          exact ⟨by first | rfl | (simp [errW_none, errW_some] <;> rfl) | (simp [*, errW_none, errW_some] <;> rfl), by repeat (first | (with_reducible first | exact HI0.out | apply IsS161.alloc | apply IsS161.drewN | apply IsS161.drew | apply IsS161.set_1 | refine IsS161.far ?_ NB0_167.out _) | exact HI0.out), by repeat (first | (with_reducible first | exact HB.out | apply below_alloc | apply pw_below_drewN | apply below_drew1 | refine below_set ?_ (IsS161.ge HI0.out) | refine below_set ?_ GE167.out) | exact HB.out), by repeat (first | (with_reducible first | exact HK.out | apply KeepBut.set_ | apply keep_drewN | apply keep_drew | apply keep_alloc | refine keep_far ?_ GW167.out _) | exact HK.out)⟩
        · rw [if_neg c27] at H
          have c27b0 : (t168 == 7) = false := beq_eq_false_iff_ne.mpr c27
          have c27b1 : (t168 != 7) = true := bne_iff_ne.mpr c27
          replace H := Option.bind_eq_some_iff.mp H
          obtain ⟨⟨t178, t179⟩, A330, H⟩ := H
          replace H : ((spec_l8Min.f t172 t178).bind fun t180 => ((spec_l8Max.f t172 t178).bind fun t181 => ((spec_l8Cut.f t180 t181).bind fun bt182 => (some (bt182.1, bt182.2, t179))))) = some (r1, r2, r3) := H
          have A33 := Aside0.mk A330
          clear A330
          replace H := Option.bind_eq_some_iff.mp H
          obtain ⟨t180, A340, H⟩ := H
          replace H : ((spec_l8Max.f t172 t178).bind fun t181 => ((spec_l8Cut.f t180 t181).bind fun bt182 => (some (bt182.1, bt182.2, t179)))) = some (r1, r2, r3) := H
          have A34 := Aside0.mk A340
          clear A340
          replace H := Option.bind_eq_some_iff.mp H
          obtain ⟨t181, A350, H⟩ := H
          replace H : ((spec_l8Cut.f t180 t181).bind fun bt182 => (some (bt182.1, bt182.2, t179))) = some (r1, r2, r3) := H
          have A35 := Aside0.mk A350
          clear A350
          replace H := Option.bind_eq_some_iff.mp H
          obtain ⟨⟨t182, t183⟩, A360, H⟩ := H
          replace H : (some (t182, t183, t179)) = some (r1, r2, r3) := H
          have A36 := Aside0.mk A360
          clear A360
          simp only [Option.some.injEq, Prod.mk.injEq] at H
          obtain ⟨rfl, rfl, rfl⟩ := H
          go_enter Try.func193, Try.ntmps193
          go_wp2_with (first | ((with_reducible refine gate_dst (N := 2) rfl ?_); refine sqx 2 #[.int .i64 0, .int .i64 0] 24 ?_; intro gb167 hg w37 hbox hb; have n0_ := Aside0.mk (IsS161.below (by repeat (first | (with_reducible first | exact HI0.out | apply IsS161.alloc | apply IsS161.drewN | apply IsS161.drew | apply IsS161.set_1) | exact HI0.out)) hb); have n1_ := Aside0.mk (KeepBut.trans (by repeat (first | (with_reducible first | exact HK.out | apply KeepBut.set_ | apply keep_drewN | apply keep_drew | apply keep_alloc) | exact HK.out)) (KeepBut.of_below hb g none) (.inl rfl)); have n2_ := Aside0.mk (below_step (by repeat (first | (with_reducible first | exact HB.out | apply below_alloc | apply pw_below_drewN | apply below_drew1 | refine below_set ?_ (IsS161.ge HI0.out)) | exact HB.out)) hb); have n3_ := Aside0.mk (hbox); have n4_ := Aside0.mk ((by rw [hg]; exact (keep_size (w := w) (g := g) (row := none) (by repeat (first | (with_reducible first | exact HK.out | apply KeepBut.set_ | apply keep_drewN | apply keep_drew | apply keep_alloc) | exact HK.out))) : w.heap.size ≤ gb167)); have n5_ := Aside0.mk ((Nat.le_trans HW0.out (by rw [hg]; exact (keep_size (w := w) (g := g) (row := none) (by repeat (first | (with_reducible first | exact HK.out | apply KeepBut.set_ | apply keep_drewN | apply keep_drew | apply keep_alloc) | exact HK.out))) : w.heap.size ≤ gb167) : w0.heap.size ≤ gb167)); have n6_ := Aside0.mk ((by rw [hg]; exact Nat.ne_of_lt (IsS161.lt (show IsS161 w0 _ g s0_0 s0_1 from by repeat (first | (with_reducible first | exact HI0.out | apply IsS161.alloc | apply IsS161.drewN | apply IsS161.drew | apply IsS161.set_1) | exact HI0.out))) : g ≠ gb167)); have n7_ := Aside0.mk ((by rw [hg]; exact Nat.ne_of_gt (IsS161.lt (show IsS161 w0 _ g s0_0 s0_1 from by repeat (first | (with_reducible first | exact HI0.out | apply IsS161.alloc | apply IsS161.drewN | apply IsS161.drew | apply IsS161.set_1) | exact HI0.out))) : gb167 ≠ g)); clear HI0; clear HK; clear HB; have HI0 := n0_; have HK := n1_; have HB := n2_; have BK167 := n3_; have GW167 := n4_; have GE167 := n5_; have NB0_167 := n6_; have NB167_0 := n7_; clear n0_ n1_ n2_ n3_ n4_ n5_ n6_ n7_; clear hb hbox hg) | ((with_reducible refine gate_callee (f := 109) rfl ?_); refine sqL (some 7) Try.func109 #[.pointer (some ⟨g, 0, none⟩), .int .i64 12] ?_; (with_reducible refine (spec_l1Rd_pick.calls k g s0_0 s0_1 12 t168 t169 w0 _ ?side1 ?side2 A2.out).mono ?_); (case side1 => repeat (first | (with_reducible first | exact HI0.out | apply IsS161.alloc | apply IsS161.drewN | apply IsS161.drew | apply IsS161.set_1 | refine IsS161.far ?_ NB0_167.out _) | exact HI0.out)); (case side2 => repeat (first | (with_reducible first | exact HB.out | apply below_alloc | apply pw_below_drewN | apply below_drew1 | refine below_set ?_ (IsS161.ge HI0.out) | refine below_set ?_ GE167.out) | exact HB.out)); rintro e w38 ⟨rfl, hi, hb, hk⟩; refine ⟨_, rfl, ?_⟩; have n0_ := Aside0.mk (KeepBut.blk hk (g' := gb167) (o := .cells #[.int .i64 0, .int .i64 0] 24 (0, 0)) (by refine sqt ?_; exact BK167.out) NB167_0.out (by simp)); have n1_ := Aside0.mk (KeepBut.trans (by repeat (first | (with_reducible first | exact HK.out | apply KeepBut.set_ | apply keep_drewN | apply keep_drew | apply keep_alloc | refine keep_far ?_ GW167.out _) | exact HK.out)) hk (.inl rfl)); have n2_ := Aside0.mk (hb); have n3_ := Aside0.mk (hi); clear BK167; clear HK; clear HB; clear HI0; have BK167 := n0_; have HK := n1_; have HB := n2_; have HI0 := n3_; clear n0_ n1_ n2_ n3_; (try clear hb); (try clear hb2); (try clear hk); (try clear hi)) | ((with_reducible refine gate_callee (f := 195) rfl ?_); refine sqL (some 12) Try.func195 #[.pointer (some ⟨g, 0, none⟩)] ?_; (with_reducible refine (spec_l1Rd_num.calls k g s0_0 t169 t172 t173 w0 _ ?side1 ?side2 A10.out).mono ?_); (case side1 => repeat (first | (with_reducible first | exact HI0.out | apply IsS161.alloc | apply IsS161.drewN | apply IsS161.drew | apply IsS161.set_1 | refine IsS161.far ?_ NB0_167.out _) | exact HI0.out)); (case side2 => repeat (first | (with_reducible first | exact HB.out | apply below_alloc | apply pw_below_drewN | apply below_drew1 | refine below_set ?_ (IsS161.ge HI0.out) | refine below_set ?_ GE167.out) | exact HB.out)); rintro e w39 ⟨rfl, hi, hb, hk⟩; refine ⟨_, rfl, ?_⟩; have n0_ := Aside0.mk (KeepBut.blk hk (g' := gb167) (o := .cells #[.int .i64 0, .int .i64 0] 24 (0, 0)) (by refine sqt ?_; exact BK167.out) NB167_0.out (by simp)); have n1_ := Aside0.mk (KeepBut.trans (by repeat (first | (with_reducible first | exact HK.out | apply KeepBut.set_ | apply keep_drewN | apply keep_drew | apply keep_alloc | refine keep_far ?_ GW167.out _) | exact HK.out)) hk (.inl rfl)); have n2_ := Aside0.mk (hb); have n3_ := Aside0.mk (hi); clear BK167; clear HK; clear HB; clear HI0; have BK167 := n0_; have HK := n1_; have HB := n2_; have HI0 := n3_; clear n0_ n1_ n2_ n3_; (try clear hb); (try clear hb2); (try clear hk); (try clear hi)) | ((with_reducible refine gate_callee (f := 195) rfl ?_); refine sqL (some 30) Try.func195 #[.pointer (some ⟨g, 0, none⟩)] ?_; (with_reducible refine (spec_l1Rd_num.calls k g s0_0 t173 t178 t179 w0 _ ?side1 ?side2 A33.out).mono ?_); (case side1 => repeat (first | (with_reducible first | exact HI0.out | apply IsS161.alloc | apply IsS161.drewN | apply IsS161.drew | apply IsS161.set_1 | refine IsS161.far ?_ NB0_167.out _) | exact HI0.out)); (case side2 => repeat (first | (with_reducible first | exact HB.out | apply below_alloc | apply pw_below_drewN | apply below_drew1 | refine below_set ?_ (IsS161.ge HI0.out) | refine below_set ?_ GE167.out) | exact HB.out)); rintro e w40 ⟨rfl, hi, hb, hk⟩; refine ⟨_, rfl, ?_⟩; have n0_ := Aside0.mk (KeepBut.blk hk (g' := gb167) (o := .cells #[.int .i64 0, .int .i64 0] 24 (0, 0)) (by refine sqt ?_; exact BK167.out) NB167_0.out (by simp)); have n1_ := Aside0.mk (KeepBut.trans (by repeat (first | (with_reducible first | exact HK.out | apply KeepBut.set_ | apply keep_drewN | apply keep_drew | apply keep_alloc | refine keep_far ?_ GW167.out _) | exact HK.out)) hk (.inl rfl)); have n2_ := Aside0.mk (hb); have n3_ := Aside0.mk (hi); clear BK167; clear HK; clear HB; clear HI0; have BK167 := n0_; have HK := n1_; have HB := n2_; have HI0 := n3_; clear n0_ n1_ n2_ n3_; (try clear hb); (try clear hb2); (try clear hk); (try clear hi)) | ((with_reducible refine gate_callee (f := 134) rfl ?_); refine sqL (some 33) Try.func134 #[.int .i64 t172, .int .i64 t178] ?_; (with_reducible refine (spec_l8Min.calls t172 t178 t180 _ A34.out).mono ?_); rintro e w' ⟨rfl, ⟨nd, rfl⟩⟩; refine ⟨_, rfl, ?_⟩; (try (rw [drewN_self w40]; generalize hq_ : World.drewN w40 _ = w40; have n0_ : Aside0 (w40.heap[gb167]? = some (.cells #[.int .i64 0, .int .i64 0] 24 (0, 0))) := ⟨by rw [← hq_]; exact (by refine sqt ?_; exact BK167.out)⟩; have n1_ : Aside0 (IsS161 w0 w40 g s0_0 t179) := ⟨by rw [← hq_]; exact (by repeat (first | (with_reducible first | exact HI0.out | apply IsS161.alloc | apply IsS161.drewN | apply IsS161.drew | apply IsS161.set_1 | refine IsS161.far ?_ NB0_167.out _) | exact HI0.out))⟩; have n2_ : Aside0 (KeepBut w w40 g none) := ⟨by rw [← hq_]; exact (by repeat (first | (with_reducible first | exact HK.out | apply KeepBut.set_ | apply keep_drewN | apply keep_drew | apply keep_alloc | refine keep_far ?_ GW167.out _) | exact HK.out))⟩; have n3_ : Aside0 (Below w0.heap.size w0 w40) := ⟨by rw [← hq_]; exact (by repeat (first | (with_reducible first | exact HB.out | apply below_alloc | apply pw_below_drewN | apply below_drew1 | refine below_set ?_ (IsS161.ge HI0.out) | refine below_set ?_ GE167.out) | exact HB.out))⟩; clear BK167 HI0 HK HB hq_; have BK167 := n0_; have HI0 := n1_; have HK := n2_; have HB := n3_; clear n0_ n1_ n2_ n3_))) | ((with_reducible refine gate_callee (f := 122) rfl ?_); refine sqL (some 36) Try.func122 #[.int .i64 t172, .int .i64 t178] ?_; (with_reducible refine (spec_l8Max.calls t172 t178 t181 _ A35.out).mono ?_); rintro e w' ⟨rfl, ⟨nd, rfl⟩⟩; refine ⟨_, rfl, ?_⟩; (try (rw [drewN_self w40]; generalize hq_ : World.drewN w40 _ = w40; have n0_ : Aside0 (w40.heap[gb167]? = some (.cells #[.int .i64 0, .int .i64 0] 24 (0, 0))) := ⟨by rw [← hq_]; exact (by refine sqt ?_; exact BK167.out)⟩; have n1_ : Aside0 (IsS161 w0 w40 g s0_0 t179) := ⟨by rw [← hq_]; exact (by repeat (first | (with_reducible first | exact HI0.out | apply IsS161.alloc | apply IsS161.drewN | apply IsS161.drew | apply IsS161.set_1 | refine IsS161.far ?_ NB0_167.out _) | exact HI0.out))⟩; have n2_ : Aside0 (KeepBut w w40 g none) := ⟨by rw [← hq_]; exact (by repeat (first | (with_reducible first | exact HK.out | apply KeepBut.set_ | apply keep_drewN | apply keep_drew | apply keep_alloc | refine keep_far ?_ GW167.out _) | exact HK.out))⟩; have n3_ : Aside0 (Below w0.heap.size w0 w40) := ⟨by rw [← hq_]; exact (by repeat (first | (with_reducible first | exact HB.out | apply below_alloc | apply pw_below_drewN | apply below_drew1 | refine below_set ?_ (IsS161.ge HI0.out) | refine below_set ?_ GE167.out) | exact HB.out))⟩; clear BK167 HI0 HK HB hq_; have BK167 := n0_; have HI0 := n1_; have HK := n2_; have HB := n3_; clear n0_ n1_ n2_ n3_))) | ((with_reducible refine gate_callee (f := 133) rfl ?_); refine sqL (some 37) Try.func133 #[.int .i64 t180, .int .i64 t181] ?_; (with_reducible refine (spec_l8Cut.calls t180 t181 t182 t183 _ A36.out).mono ?_); rintro e w41 ⟨rfl, hb⟩; refine ⟨_, rfl, ?_⟩; have n0_ := Aside0.mk (IsS161.below (by repeat (first | (with_reducible first | exact HI0.out | apply IsS161.alloc | apply IsS161.drewN | apply IsS161.drew | apply IsS161.set_1 | refine IsS161.far ?_ NB0_167.out _) | exact HI0.out)) hb); have n1_ := sqb BK167 hb; have n2_ := Aside0.mk (KeepBut.trans (by repeat (first | (with_reducible first | exact HK.out | apply KeepBut.set_ | apply keep_drewN | apply keep_drew | apply keep_alloc | refine keep_far ?_ GW167.out _) | exact HK.out)) (KeepBut.of_below hb g none) (.inl rfl)); have n3_ := Aside0.mk (below_step (by repeat (first | (with_reducible first | exact HB.out | apply below_alloc | apply pw_below_drewN | apply below_drew1 | refine below_set ?_ (IsS161.ge HI0.out) | refine below_set ?_ GE167.out) | exact HB.out)) hb); clear HI0; clear BK167; clear HK; clear HB; have HI0 := n0_; have BK167 := n1_; have HK := n2_; have HB := n3_; clear n0_ n1_ n2_ n3_; (try clear hb); have hnb42 := NB167_0.out; have hnc42 := NB0_167.out; obtain ⟨hcz43_0, hcz43_1, hfz43_0, hfz43_1⟩ := sqc2 BK167))
          refine bodyPost_ret (results_cell_row rfl _ _ gb167 24 #[.int .i64 t182, .int .i64 t183] (0, 0) _ rfl (by refine sqt ?_; refine blk_put (cs := #[.int .i64 t182, .int .i64 0]) ?_ 1 _ rfl; refine sqt ?_; refine blk_put (cs := #[.int .i64 0, .int .i64 0]) ?_ 0 _ rfl; refine sqt ?_; exact BK167.out) Try.underlying24 rfl (by kernel_rfl)) rfl ?_
          exact ⟨by first | rfl | (simp [errW_none, errW_some] <;> rfl) | (simp [*, errW_none, errW_some] <;> rfl), by repeat (first | (with_reducible first | exact HI0.out | apply IsS161.alloc | apply IsS161.drewN | apply IsS161.drew | apply IsS161.set_1 | refine IsS161.far ?_ NB0_167.out _) | exact HI0.out), by repeat (first | (with_reducible first | exact HB.out | apply below_alloc | apply pw_below_drewN | apply below_drew1 | refine below_set ?_ (IsS161.ge HI0.out) | refine below_set ?_ GE167.out) | exact HB.out), by repeat (first | (with_reducible first | exact HK.out | apply KeepBut.set_ | apply keep_drewN | apply keep_drew | apply keep_alloc | refine keep_far ?_ GW167.out _) | exact HK.out)⟩

/-! ### spec_l8Wild: function 93 -/
theorem spec_l8Wild.mono : ∀ a0 a1 k, LeO (spec_l8Wild.f k a0 a1) (spec_l8Wild.f (k + 1) a0 a1) := by
  intro a0 a1 k
  unfold spec_l8Wild.f
  repeat' first
      | (with_reducible exact spec_l1Rd_pick.mono _ _ _ _)
      | (with_reducible exact spec_l1Rd_wild.mono _ _ _)
      | (with_reducible exact spec_l8Range.mono _ _ _)
      | (with_reducible exact LeO.refl _)
      | (with_reducible exact LeO.none _)
      | (with_reducible refine LeO.ite ?_ ?_)
      | (with_reducible refine LeO.bind ?_ (fun _ => ?_))
      | exact spec_l1Rd_pick.mono _ _ _ _
      | exact spec_l1Rd_wild.mono _ _ _
      | exact spec_l8Range.mono _ _ _
      | exact LeO.none _
      | refine LeO.ite ?_ ?_
      | refine LeO.bind ?_ (fun _ => ?_)
set_option maxHeartbeats 8000000 in
set_option maxRecDepth 100000 in
theorem spec_l8Wild.calls (k : Nat) (g : Nat) (s0_0 : List Int) (s0_1 : Int) (r1 : Int) (r2 : Int) (r3 : Int) (w0 w : World) (hI : IsS161 w0 w g s0_0 s0_1) (hB : Below w0.heap.size w0 w) (h : spec_l8Wild.f k s0_0 s0_1 = some (r1, r2, r3)) :
    Calls Try.prog 93 #[.pointer (some ⟨g, 0, none⟩)] w fun e w' => e = .returned (.agg #[.int .i64 r1, .int .i64 r2]) ∧ IsS161 w0 w' g s0_0 r3 ∧ Below w0.heap.size w0 w' ∧ KeepBut w w' g none := by
  have hu24 := Try.underlying24
  have HI0 := Aside0.mk hI
  have HK := Aside0.mk (KeepBut.refl w g none)
  have HL := Aside0.mk hB.size
  clear hI
  have HW0 := Aside0.mk hB.size
  have HB := Aside0.mk hB
  clear hB
  have H : ((spec_l1Rd_pick.f k s0_0 s0_1 12).bind fun bt185 => (if bt185.1 = 0 then ((spec_l1Rd_wild.f k s0_0 bt185.2).bind fun bt187 => ((spec_l1Rd_wild.f k s0_0 bt187.2).bind fun bt189 => (some (bt187.1, bt189.1, bt189.2)))) else ((spec_l8Range.f k s0_0 bt185.2).bind fun bt191 => (some (bt191.1, bt191.2.1, bt191.2.2))))) = some (r1, r2, r3) := h
  clear h
  replace H := Option.bind_eq_some_iff.mp H
  obtain ⟨⟨t185, t186⟩, A20, H⟩ := H
  replace H : (if t185 = 0 then ((spec_l1Rd_wild.f k s0_0 t186).bind fun bt187 => ((spec_l1Rd_wild.f k s0_0 bt187.2).bind fun bt189 => (some (bt187.1, bt189.1, bt189.2)))) else ((spec_l8Range.f k s0_0 t186).bind fun bt191 => (some (bt191.1, bt191.2.1, bt191.2.2)))) = some (r1, r2, r3) := H
  have A2 := Aside0.mk A20
  clear A20
  by_cases c3 : t185 = 0
  · rw [if_pos c3] at H
    have c3b0 : (t185 == 0) = true := beq_iff_eq.mpr c3
    have c3b1 : (t185 != 0) = false := bne_eq_false_iff_eq.mpr c3
    clear c3
    replace H := Option.bind_eq_some_iff.mp H
    obtain ⟨⟨t187, t188⟩, A40, H⟩ := H
    replace H : ((spec_l1Rd_wild.f k s0_0 t188).bind fun bt189 => (some (t187, bt189.1, bt189.2))) = some (r1, r2, r3) := H
    have A4 := Aside0.mk A40
    clear A40
    replace H := Option.bind_eq_some_iff.mp H
    obtain ⟨⟨t189, t190⟩, A50, H⟩ := H
    replace H : (some (t187, t189, t190)) = some (r1, r2, r3) := H
    have A5 := Aside0.mk A50
    clear A50
    simp only [Option.some.injEq, Prod.mk.injEq] at H
    obtain ⟨rfl, rfl, rfl⟩ := H
    go_enter Try.func93, Try.ntmps93
    go_wp2_with (first | ((with_reducible refine gate_dst (N := 2) rfl ?_); refine sqx 2 #[.int .i64 0, .int .i64 0] 24 ?_; intro gb184 hg w6 hbox hb; have n0_ := Aside0.mk (IsS161.below (by repeat (first | (with_reducible first | exact HI0.out | apply IsS161.alloc | apply IsS161.drewN | apply IsS161.drew | apply IsS161.set_1) | exact HI0.out)) hb); have n1_ := Aside0.mk (KeepBut.trans (by repeat (first | (with_reducible first | exact HK.out | apply KeepBut.set_ | apply keep_drewN | apply keep_drew | apply keep_alloc) | exact HK.out)) (KeepBut.of_below hb g none) (.inl rfl)); have n2_ := Aside0.mk (below_step (by repeat (first | (with_reducible first | exact HB.out | apply below_alloc | apply pw_below_drewN | apply below_drew1 | refine below_set ?_ (IsS161.ge HI0.out)) | exact HB.out)) hb); have n3_ := Aside0.mk (hbox); have n4_ := Aside0.mk ((by rw [hg]; exact (keep_size (w := w) (g := g) (row := none) (by repeat (first | (with_reducible first | exact HK.out | apply KeepBut.set_ | apply keep_drewN | apply keep_drew | apply keep_alloc) | exact HK.out))) : w.heap.size ≤ gb184)); have n5_ := Aside0.mk ((Nat.le_trans HW0.out (by rw [hg]; exact (keep_size (w := w) (g := g) (row := none) (by repeat (first | (with_reducible first | exact HK.out | apply KeepBut.set_ | apply keep_drewN | apply keep_drew | apply keep_alloc) | exact HK.out))) : w.heap.size ≤ gb184) : w0.heap.size ≤ gb184)); have n6_ := Aside0.mk ((by rw [hg]; exact Nat.ne_of_lt (IsS161.lt (show IsS161 w0 _ g s0_0 s0_1 from by repeat (first | (with_reducible first | exact HI0.out | apply IsS161.alloc | apply IsS161.drewN | apply IsS161.drew | apply IsS161.set_1) | exact HI0.out))) : g ≠ gb184)); have n7_ := Aside0.mk ((by rw [hg]; exact Nat.ne_of_gt (IsS161.lt (show IsS161 w0 _ g s0_0 s0_1 from by repeat (first | (with_reducible first | exact HI0.out | apply IsS161.alloc | apply IsS161.drewN | apply IsS161.drew | apply IsS161.set_1) | exact HI0.out))) : gb184 ≠ g)); clear HI0; clear HK; clear HB; have HI0 := n0_; have HK := n1_; have HB := n2_; have BK184 := n3_; have GW184 := n4_; have GE184 := n5_; have NB0_184 := n6_; have NB184_0 := n7_; clear n0_ n1_ n2_ n3_ n4_ n5_ n6_ n7_; clear hb hbox hg) | ((with_reducible refine gate_callee (f := 109) rfl ?_); refine sqL (some 4) Try.func109 #[.pointer (some ⟨g, 0, none⟩), .int .i64 12] ?_; (with_reducible refine (spec_l1Rd_pick.calls k g s0_0 s0_1 12 t185 t186 w0 _ ?side1 ?side2 A2.out).mono ?_); (case side1 => repeat (first | (with_reducible first | exact HI0.out | apply IsS161.alloc | apply IsS161.drewN | apply IsS161.drew | apply IsS161.set_1 | refine IsS161.far ?_ NB0_184.out _) | exact HI0.out)); (case side2 => repeat (first | (with_reducible first | exact HB.out | apply below_alloc | apply pw_below_drewN | apply below_drew1 | refine below_set ?_ (IsS161.ge HI0.out) | refine below_set ?_ GE184.out) | exact HB.out)); rintro e w7 ⟨rfl, hi, hb, hk⟩; refine ⟨_, rfl, ?_⟩; have n0_ := Aside0.mk (KeepBut.blk hk (g' := gb184) (o := .cells #[.int .i64 0, .int .i64 0] 24 (0, 0)) (by refine sqt ?_; exact BK184.out) NB184_0.out (by simp)); have n1_ := Aside0.mk (KeepBut.trans (by repeat (first | (with_reducible first | exact HK.out | apply KeepBut.set_ | apply keep_drewN | apply keep_drew | apply keep_alloc | refine keep_far ?_ GW184.out _) | exact HK.out)) hk (.inl rfl)); have n2_ := Aside0.mk (hb); have n3_ := Aside0.mk (hi); clear BK184; clear HK; clear HB; clear HI0; have BK184 := n0_; have HK := n1_; have HB := n2_; have HI0 := n3_; clear n0_ n1_ n2_ n3_; (try clear hb); (try clear hb2); (try clear hk); (try clear hi)) | ((with_reducible refine gate_callee (f := 192) rfl ?_); refine sqL (some 7) Try.func192 #[.pointer (some ⟨g, 0, none⟩)] ?_; (with_reducible refine (spec_l1Rd_wild.calls k g s0_0 t186 t187 t188 w0 _ ?side1 ?side2 A4.out).mono ?_); (case side1 => repeat (first | (with_reducible first | exact HI0.out | apply IsS161.alloc | apply IsS161.drewN | apply IsS161.drew | apply IsS161.set_1 | refine IsS161.far ?_ NB0_184.out _) | exact HI0.out)); (case side2 => repeat (first | (with_reducible first | exact HB.out | apply below_alloc | apply pw_below_drewN | apply below_drew1 | refine below_set ?_ (IsS161.ge HI0.out) | refine below_set ?_ GE184.out) | exact HB.out)); rintro e w8 ⟨rfl, hi, hb, hk⟩; refine ⟨_, rfl, ?_⟩; have n0_ := Aside0.mk (KeepBut.blk hk (g' := gb184) (o := .cells #[.int .i64 0, .int .i64 0] 24 (0, 0)) (by refine sqt ?_; exact BK184.out) NB184_0.out (by simp)); have n1_ := Aside0.mk (KeepBut.trans (by repeat (first | (with_reducible first | exact HK.out | apply KeepBut.set_ | apply keep_drewN | apply keep_drew | apply keep_alloc | refine keep_far ?_ GW184.out _) | exact HK.out)) hk (.inl rfl)); have n2_ := Aside0.mk (hb); have n3_ := Aside0.mk (hi); clear BK184; clear HK; clear HB; clear HI0; have BK184 := n0_; have HK := n1_; have HB := n2_; have HI0 := n3_; clear n0_ n1_ n2_ n3_; (try clear hb); (try clear hb2); (try clear hk); (try clear hi)) | ((with_reducible refine gate_callee (f := 192) rfl ?_); refine sqL (some 9) Try.func192 #[.pointer (some ⟨g, 0, none⟩)] ?_; (with_reducible refine (spec_l1Rd_wild.calls k g s0_0 t188 t189 t190 w0 _ ?side1 ?side2 A5.out).mono ?_); (case side1 => repeat (first | (with_reducible first | exact HI0.out | apply IsS161.alloc | apply IsS161.drewN | apply IsS161.drew | apply IsS161.set_1 | refine IsS161.far ?_ NB0_184.out _) | exact HI0.out)); (case side2 => repeat (first | (with_reducible first | exact HB.out | apply below_alloc | apply pw_below_drewN | apply below_drew1 | refine below_set ?_ (IsS161.ge HI0.out) | refine below_set ?_ GE184.out) | exact HB.out)); rintro e w9 ⟨rfl, hi, hb, hk⟩; refine ⟨_, rfl, ?_⟩; have n0_ := Aside0.mk (KeepBut.blk hk (g' := gb184) (o := .cells #[.int .i64 0, .int .i64 0] 24 (0, 0)) (by refine sqt ?_; exact BK184.out) NB184_0.out (by simp)); have n1_ := Aside0.mk (KeepBut.trans (by repeat (first | (with_reducible first | exact HK.out | apply KeepBut.set_ | apply keep_drewN | apply keep_drew | apply keep_alloc | refine keep_far ?_ GW184.out _) | exact HK.out)) hk (.inl rfl)); have n2_ := Aside0.mk (hb); have n3_ := Aside0.mk (hi); clear BK184; clear HK; clear HB; clear HI0; have BK184 := n0_; have HK := n1_; have HB := n2_; have HI0 := n3_; clear n0_ n1_ n2_ n3_; (try clear hb); (try clear hb2); (try clear hk); (try clear hi); have hnb10 := NB184_0.out; have hnc10 := NB0_184.out; obtain ⟨hcz11_0, hcz11_1, hfz11_0, hfz11_1⟩ := sqc2 BK184))
    refine bodyPost_ret (results_cell_row rfl _ _ gb184 24 #[.int .i64 t187, .int .i64 t189] (0, 0) _ rfl (by refine sqt ?_; refine blk_put (cs := #[.int .i64 t187, .int .i64 0]) ?_ 1 _ rfl; refine sqt ?_; refine blk_put (cs := #[.int .i64 0, .int .i64 0]) ?_ 0 _ rfl; refine sqt ?_; exact BK184.out) Try.underlying24 rfl (by kernel_rfl)) rfl ?_
    exact ⟨by first | rfl | (simp [errW_none, errW_some] <;> rfl) | (simp [*, errW_none, errW_some] <;> rfl), by repeat (first | (with_reducible first | exact HI0.out | apply IsS161.alloc | apply IsS161.drewN | apply IsS161.drew | apply IsS161.set_1 | refine IsS161.far ?_ NB0_184.out _) | exact HI0.out), by repeat (first | (with_reducible first | exact HB.out | apply below_alloc | apply pw_below_drewN | apply below_drew1 | refine below_set ?_ (IsS161.ge HI0.out) | refine below_set ?_ GE184.out) | exact HB.out), by repeat (first | (with_reducible first | exact HK.out | apply KeepBut.set_ | apply keep_drewN | apply keep_drew | apply keep_alloc | refine keep_far ?_ GW184.out _) | exact HK.out)⟩
  · rw [if_neg c3] at H
    have c3b0 : (t185 == 0) = false := beq_eq_false_iff_ne.mpr c3
    have c3b1 : (t185 != 0) = true := bne_iff_ne.mpr c3
    replace H := Option.bind_eq_some_iff.mp H
    obtain ⟨⟨t191, t192, t193⟩, A120, H⟩ := H
    replace H : (some (t191, t192, t193)) = some (r1, r2, r3) := H
    have A12 := Aside0.mk A120
    clear A120
    simp only [Option.some.injEq, Prod.mk.injEq] at H
    obtain ⟨rfl, rfl, rfl⟩ := H
    go_enter Try.func93, Try.ntmps93
    go_wp2_with (first | ((with_reducible refine gate_dst (N := 2) rfl ?_); refine sqx 2 #[.int .i64 0, .int .i64 0] 24 ?_; intro gb184 hg w13 hbox hb; have n0_ := Aside0.mk (IsS161.below (by repeat (first | (with_reducible first | exact HI0.out | apply IsS161.alloc | apply IsS161.drewN | apply IsS161.drew | apply IsS161.set_1) | exact HI0.out)) hb); have n1_ := Aside0.mk (KeepBut.trans (by repeat (first | (with_reducible first | exact HK.out | apply KeepBut.set_ | apply keep_drewN | apply keep_drew | apply keep_alloc) | exact HK.out)) (KeepBut.of_below hb g none) (.inl rfl)); have n2_ := Aside0.mk (below_step (by repeat (first | (with_reducible first | exact HB.out | apply below_alloc | apply pw_below_drewN | apply below_drew1 | refine below_set ?_ (IsS161.ge HI0.out)) | exact HB.out)) hb); have n3_ := Aside0.mk (hbox); have n4_ := Aside0.mk ((by rw [hg]; exact (keep_size (w := w) (g := g) (row := none) (by repeat (first | (with_reducible first | exact HK.out | apply KeepBut.set_ | apply keep_drewN | apply keep_drew | apply keep_alloc) | exact HK.out))) : w.heap.size ≤ gb184)); have n5_ := Aside0.mk ((Nat.le_trans HW0.out (by rw [hg]; exact (keep_size (w := w) (g := g) (row := none) (by repeat (first | (with_reducible first | exact HK.out | apply KeepBut.set_ | apply keep_drewN | apply keep_drew | apply keep_alloc) | exact HK.out))) : w.heap.size ≤ gb184) : w0.heap.size ≤ gb184)); have n6_ := Aside0.mk ((by rw [hg]; exact Nat.ne_of_lt (IsS161.lt (show IsS161 w0 _ g s0_0 s0_1 from by repeat (first | (with_reducible first | exact HI0.out | apply IsS161.alloc | apply IsS161.drewN | apply IsS161.drew | apply IsS161.set_1) | exact HI0.out))) : g ≠ gb184)); have n7_ := Aside0.mk ((by rw [hg]; exact Nat.ne_of_gt (IsS161.lt (show IsS161 w0 _ g s0_0 s0_1 from by repeat (first | (with_reducible first | exact HI0.out | apply IsS161.alloc | apply IsS161.drewN | apply IsS161.drew | apply IsS161.set_1) | exact HI0.out))) : gb184 ≠ g)); clear HI0; clear HK; clear HB; have HI0 := n0_; have HK := n1_; have HB := n2_; have BK184 := n3_; have GW184 := n4_; have GE184 := n5_; have NB0_184 := n6_; have NB184_0 := n7_; clear n0_ n1_ n2_ n3_ n4_ n5_ n6_ n7_; clear hb hbox hg) | ((with_reducible refine gate_callee (f := 109) rfl ?_); refine sqL (some 4) Try.func109 #[.pointer (some ⟨g, 0, none⟩), .int .i64 12] ?_; (with_reducible refine (spec_l1Rd_pick.calls k g s0_0 s0_1 12 t185 t186 w0 _ ?side1 ?side2 A2.out).mono ?_); (case side1 => repeat (first | (with_reducible first | exact HI0.out | apply IsS161.alloc | apply IsS161.drewN | apply IsS161.drew | apply IsS161.set_1 | refine IsS161.far ?_ NB0_184.out _) | exact HI0.out)); (case side2 => repeat (first | (with_reducible first | exact HB.out | apply below_alloc | apply pw_below_drewN | apply below_drew1 | refine below_set ?_ (IsS161.ge HI0.out) | refine below_set ?_ GE184.out) | exact HB.out)); rintro e w14 ⟨rfl, hi, hb, hk⟩; refine ⟨_, rfl, ?_⟩; have n0_ := Aside0.mk (KeepBut.blk hk (g' := gb184) (o := .cells #[.int .i64 0, .int .i64 0] 24 (0, 0)) (by refine sqt ?_; exact BK184.out) NB184_0.out (by simp)); have n1_ := Aside0.mk (KeepBut.trans (by repeat (first | (with_reducible first | exact HK.out | apply KeepBut.set_ | apply keep_drewN | apply keep_drew | apply keep_alloc | refine keep_far ?_ GW184.out _) | exact HK.out)) hk (.inl rfl)); have n2_ := Aside0.mk (hb); have n3_ := Aside0.mk (hi); clear BK184; clear HK; clear HB; clear HI0; have BK184 := n0_; have HK := n1_; have HB := n2_; have HI0 := n3_; clear n0_ n1_ n2_ n3_; (try clear hb); (try clear hb2); (try clear hk); (try clear hi)) | ((with_reducible refine gate_callee (f := 193) rfl ?_); refine sqL (some 12) Try.func193 #[.pointer (some ⟨g, 0, none⟩)] ?_; (with_reducible refine (spec_l8Range.calls k g s0_0 t186 t191 t192 t193 w0 _ ?side1 ?side2 A12.out).mono ?_); (case side1 => repeat (first | (with_reducible first | exact HI0.out | apply IsS161.alloc | apply IsS161.drewN | apply IsS161.drew | apply IsS161.set_1 | refine IsS161.far ?_ NB0_184.out _) | exact HI0.out)); (case side2 => repeat (first | (with_reducible first | exact HB.out | apply below_alloc | apply pw_below_drewN | apply below_drew1 | refine below_set ?_ (IsS161.ge HI0.out) | refine below_set ?_ GE184.out) | exact HB.out)); rintro e w15 ⟨rfl, hi, hb, hk⟩; refine ⟨_, rfl, ?_⟩; have n0_ := Aside0.mk (KeepBut.blk hk (g' := gb184) (o := .cells #[.int .i64 0, .int .i64 0] 24 (0, 0)) (by refine sqt ?_; exact BK184.out) NB184_0.out (by simp)); have n1_ := Aside0.mk (KeepBut.trans (by repeat (first | (with_reducible first | exact HK.out | apply KeepBut.set_ | apply keep_drewN | apply keep_drew | apply keep_alloc | refine keep_far ?_ GW184.out _) | exact HK.out)) hk (.inl rfl)); have n2_ := Aside0.mk (hb); have n3_ := Aside0.mk (hi); clear BK184; clear HK; clear HB; clear HI0; have BK184 := n0_; have HK := n1_; have HB := n2_; have HI0 := n3_; clear n0_ n1_ n2_ n3_; (try clear hb); (try clear hb2); (try clear hk); (try clear hi); have hnb16 := NB184_0.out; have hnc16 := NB0_184.out; obtain ⟨hcz17_0, hcz17_1, hfz17_0, hfz17_1⟩ := sqc2 BK184))
    refine bodyPost_ret (results_cell_row rfl _ _ gb184 24 #[.int .i64 t191, .int .i64 t192] (0, 0) _ rfl (by refine sqt ?_; refine blk_put (cs := #[.int .i64 t191, .int .i64 0]) ?_ 1 _ rfl; refine sqt ?_; refine blk_put (cs := #[.int .i64 0, .int .i64 0]) ?_ 0 _ rfl; refine sqt ?_; exact BK184.out) Try.underlying24 rfl (by kernel_rfl)) rfl ?_
    exact ⟨by first | rfl | (simp [errW_none, errW_some] <;> rfl) | (simp [*, errW_none, errW_some] <;> rfl), by repeat (first | (with_reducible first | exact HI0.out | apply IsS161.alloc | apply IsS161.drewN | apply IsS161.drew | apply IsS161.set_1 | refine IsS161.far ?_ NB0_184.out _) | exact HI0.out), by repeat (first | (with_reducible first | exact HB.out | apply below_alloc | apply pw_below_drewN | apply below_drew1 | refine below_set ?_ (IsS161.ge HI0.out) | refine below_set ?_ GE184.out) | exact HB.out), by repeat (first | (with_reducible first | exact HK.out | apply KeepBut.set_ | apply keep_drewN | apply keep_drew | apply keep_alloc | refine keep_far ?_ GW184.out _) | exact HK.out)⟩

end Go.Proofs.Ytkekcenlleebeaa.PFnRangeCmp
