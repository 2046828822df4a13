/- Functions of the program as plain Lean functions, and that calls of them come to what these tell. Conditions: those in each law. -/
import Derived.Test.YtkekcenlleebeaaSq
import Derived.Test.YtkekcenlleebeaaDFnGapsJoin
import Derived.Test.YtkekcenlleebeaaQFnGapsJoinx0
import Derived.Test.YtkekcenlleebeaaQFnGapsJoinx1
namespace Go.Proofs.Ytkekcenlleebeaa.PFnGapsJoin
open Go.RowKit Go.Proofs.Ytkekcenlleebeaa.Sq Go.Proofs.YtkekcenlleebeaaW.PrintWords Go.Proofs.YtkekcenlleebeaaW.PrintLast Go.Proofs.YtkekcenlleebeaaW.PrintMore
attribute [local go_sem] max2_int min2_int max_two min_two max_three min_three max_four min_four   -- for this text's walks alone
set_option linter.unusedVariables false
set_option linter.unusedSimpArgs false

/-! ### spec_l11Numbers: function 107 -/
theorem spec_l11Numbers.mono_l : ∀ k, (∀ y0 y1 y2 y3 y4, LeO (spec_l11Numbers.l0 k y0 y1 y2 y3 y4) (spec_l11Numbers.l0 (k + 1) y0 y1 y2 y3 y4))
  | 0 => fun _ _ _ _ _ r h => by simp [spec_l11Numbers.l0] at h
  | k + 1 => by
    have ih0 := spec_l11Numbers.mono_l k
    · intro y0 y1 y2 y3 y4
      unfold spec_l11Numbers.l0
      repeat' first
      | (with_reducible exact ih0 _ _ _ _ _)
      | (with_reducible exact spec_l1Rd_num.mono _ _ _)
      | (with_reducible exact spec_l1Rd_pick.mono _ _ _ _)
      | (with_reducible exact LeO.refl _)
      | (with_reducible exact LeO.none _)
      | (with_reducible refine LeO.ite ?_ ?_)
      | (with_reducible refine LeO.bind ?_ (fun _ => ?_))
      | exact ih0 _ _ _ _ _
      | exact spec_l1Rd_num.mono _ _ _
      | exact spec_l1Rd_pick.mono _ _ _ _
      | exact LeO.none _
      | refine LeO.ite ?_ ?_
      | refine LeO.bind ?_ (fun _ => ?_)
theorem spec_l11Numbers.mono : ∀ a0 a1 a2 k, LeO (spec_l11Numbers.f k a0 a1 a2) (spec_l11Numbers.f (k + 1) a0 a1 a2) := by
  intro a0 a1 a2 k
  have ih0 := spec_l11Numbers.mono_l k
  unfold spec_l11Numbers.f
  repeat' first
      | (with_reducible exact ih0 _ _ _ _ _)
      | (with_reducible exact spec_l1Rd_num.mono _ _ _)
      | (with_reducible exact spec_l1Rd_pick.mono _ _ _ _)
      | (with_reducible exact LeO.refl _)
      | (with_reducible exact LeO.none _)
      | (with_reducible refine LeO.ite ?_ ?_)
      | (with_reducible refine LeO.bind ?_ (fun _ => ?_))
      | exact ih0 _ _ _ _ _
      | exact spec_l1Rd_num.mono _ _ _
      | exact spec_l1Rd_pick.mono _ _ _ _
      | exact LeO.none _
      | refine LeO.ite ?_ ?_
      | refine LeO.bind ?_ (fun _ => ?_)
set_option maxHeartbeats 8000000 in
set_option maxRecDepth 100000 in
theorem spec_l11Numbers.calls (k : Nat) (g : Nat) (s0_0 : List Int) (s0_1 : Int) (a1 : Int) (r1 : List Int) (r2 : Int) (w0 w : World) (hI : IsS161 w0 w g s0_0 s0_1) (hB : Below w0.heap.size w0 w) (h : spec_l11Numbers.f k s0_0 s0_1 a1 = some (r1, r2)) :
    Calls Try.prog 107 #[.pointer (some ⟨g, 0, none⟩), .int .i64 a1] w fun e w' => ∃ v0_ : Value, e = .returned (v0_) ∧ Kd.R (Kd.int .i64) 3 w' w.heap.size (fun _ => True) v0_ r1 ∧ IsS161 w0 w' g s0_0 r2 ∧ Below w0.heap.size w0 w' ∧ KeepBut w w' g none := by
  have HI0 := Aside0.mk hI
  have HK := Aside0.mk (KeepBut.refl w g none)
  have HL := Aside0.mk hB.size
  clear hI
  have HW0 := Aside0.mk hB.size
  have HB := Aside0.mk hB
  clear hB
  have H : (spec_l11Numbers.l0 k a1 (([] : List Int)) 0 s0_0 s0_1) = some (r1, r2) := h
  clear h
  obtain ⟨y133, hy133⟩ : ∃ y_ : List Int, y_ = (([] : List Int)) := ⟨_, rfl⟩
  replace H : (spec_l11Numbers.l0 k a1 y133 0 s0_0 s0_1) = some (r1, r2) := by first | (rw [hy133]; with_reducible exact H) | (have H2_ := (Option.bind_some _ _).symm.trans H; rw [hy133]; with_reducible exact H2_) | (have H2_ := (Option.bind_some _ _).symm.trans H; with_reducible exact H2_) | with_reducible exact H | (rw [hy133]; exact H) | exact H
  have Ny133 := Aside0.mk hy133
  clear hy133
  have H' := Aside0.mk H
  clear H
  go_enter Try.func107, Try.ntmps107
  go_wp2_with (first | ((with_reducible refine gate_dst (N := 7) rfl ?_); refine Kd.R_lit (Kd.int .i64) _ 3 ?hg (N := 7) ?hd (xs := ([] : List Int)) (inner := []) (ok := fun _ => True) (okp := fun _ => True) ?hr ?hp (fun _ hk => hk) trivial (Below.refl _ _) (Nat.le_refl _) (by simp) ?_; (case hd => rfl); (case hg => rfl); (case hr => first | (go_simp; done) | (go_simp; rfl)); (case hp => exact (Reps.none _ _)); intro v134 w3 ho4 hb hg_ hnew_; clear hg_ hnew_; (first | rw [← Ny133.out] at ho4 | (simp only [Int.reduceToNat] at ho4; rw [← Ny133.out] at ho4)); have n0_ := Aside0.mk (Kd.R_lower ho4 (keep_size (w := w) (g := g) (row := none) (by repeat (first | (with_reducible first | exact HK.out | apply KeepBut.set_ | apply keep_drewN | apply keep_drew | apply keep_alloc) | exact HK.out)))); have n1_ := Aside0.mk (IsS161.below (by repeat (first | (with_reducible first | exact HI0.out | apply IsS161.alloc | apply IsS161.drewN | apply IsS161.drew | apply IsS161.set_1) | exact HI0.out)) hb); have n2_ := Aside0.mk (KeepBut.trans (by repeat (first | (with_reducible first | exact HK.out | apply KeepBut.set_ | apply keep_drewN | apply keep_drew | apply keep_alloc) | exact HK.out)) (KeepBut.of_below hb g none) (.inl rfl)); have n3_ := Aside0.mk (below_step (by repeat (first | (with_reducible first | exact HB.out | apply below_alloc | apply pw_below_drewN | apply below_drew1 | refine below_set ?_ (IsS161.ge HI0.out)) | exact HB.out)) hb); clear HI0; clear HK; clear HB; have HO135 := n0_; have HI0 := n1_; have HK := n2_; have HB := n3_; clear n0_ n1_ n2_ n3_; clear hb ho4))
  go_loopg [5, 6] k (fun kq v5 v6 w' => ∃ (x5_1 : List Int) (x6_1 : Int) (x1001_1 : Int), v6 = .int .i64 x6_1 ∧ Aside0 (spec_l11Numbers.l0 kq a1 x5_1 x6_1 s0_0 x1001_1 = some (r1, r2)) ∧ Aside0 (kq ≤ k) ∧ Aside0 (Kd.R (Kd.int .i64) 3 w' w.heap.size (fun _ => True) v5 x5_1) ∧ Aside0 (IsS161 w0 w' g s0_0 x1001_1) ∧ Aside0 (KeepBut w w' g none) ∧ Aside0 (Below w0.heap.size w0 w'))
  case atStart => exact ⟨(y133), (0), (s0_1), (by first | rfl | (simp; done) | (simp [*]; done)), H', ⟨Nat.le_refl _⟩, ⟨by (with_reducible repeat (first | apply Kd.R_alloc | apply Kd.R_drewN | apply Kd.R_drew)); exact HO135.out⟩, ⟨by repeat (first | (with_reducible first | exact HI0.out | apply IsS161.alloc | apply IsS161.drewN | apply IsS161.drew | apply IsS161.set_1) | exact HI0.out)⟩, ⟨by repeat (first | (with_reducible first | exact HK.out | apply KeepBut.set_ | apply keep_drewN | apply keep_drew | apply keep_alloc) | exact HK.out)⟩, ⟨by repeat (first | (with_reducible first | exact HB.out | apply below_alloc | apply pw_below_drewN | apply below_drew1 | refine below_set ?_ (IsS161.ge HI0.out)) | exact HB.out)⟩⟩
  case round =>
    clear H'
    try clear c1
    try clear p2
    obtain ⟨x5_1, x6_1, x1001_1, rfl, HA, HK1, HO_5, HI0, HK, HB⟩ := hrel
    cases gk with
    | zero => exact absurd HA.out (by simp [spec_l11Numbers.l0])
    | succ k1 =>
      have H := HA.out
      clear HA
      simp only [spec_l11Numbers.l0] at H
      by_cases c5 : x6_1 < a1
      · rw [if_pos c5] at H
        have c5b0 : decide (x6_1 < a1) = true := decide_eq_true c5
        clear c5
        replace H := Option.bind_eq_some_iff.mp H
        obtain ⟨⟨t136, t137⟩, A60, H⟩ := H
        replace H : (if t136 = 0 then ((spec_l1Rd_num.f k1 s0_0 t137).bind fun bt138 => (if x5_1.length < 17592186044416 then (spec_l11Numbers.l0 k1 a1 (x5_1 ++ [bt138.1]) (wrap64 (x6_1 + 1)) s0_0 bt138.2) else (none))) else ((spec_l1Rd_pick.f k1 s0_0 t137 21).bind fun bt143 => (if x5_1.length < 17592186044416 then (spec_l11Numbers.l0 k1 a1 (x5_1 ++ [wrap64 (bt143.1 - 10)]) (wrap64 (x6_1 + 1)) s0_0 bt143.2) else (none)))) = some (r1, r2) := H
        have A6 := Aside0.mk A60
        clear A60
        by_cases c7 : t136 = 0
        · rw [if_pos c7] at H
          have c7b0 : (t136 == 0) = true := beq_iff_eq.mpr c7
          have c7b1 : (t136 != 0) = false := bne_eq_false_iff_eq.mpr c7
          clear c7
          replace H := Option.bind_eq_some_iff.mp H
          obtain ⟨⟨t138, t139⟩, A80, H⟩ := H
          replace H : (if x5_1.length < 17592186044416 then (spec_l11Numbers.l0 k1 a1 (x5_1 ++ [t138]) (wrap64 (x6_1 + 1)) s0_0 t139) else (none)) = some (r1, r2) := H
          have A8 := Aside0.mk A80
          clear A80
          by_cases c9 : x5_1.length < 17592186044416
          · rw [if_pos c9] at H
            have LMc9 := Aside0.mk c9
            clear c9
            obtain ⟨y140, hy140⟩ : ∃ y_ : List Int, y_ = (x5_1 ++ [t138]) := ⟨_, rfl⟩
            replace H : (spec_l11Numbers.l0 k1 a1 y140 (wrap64 (x6_1 + 1)) s0_0 t139) = some (r1, r2) := by first | (rw [hy140]; with_reducible exact H) | (have H2_ := (Option.bind_some _ _).symm.trans H; rw [hy140]; with_reducible exact H2_) | (have H2_ := (Option.bind_some _ _).symm.trans H; with_reducible exact H2_) | with_reducible exact H | (rw [hy140]; exact H) | exact H
            have Ny140 := Aside0.mk hy140
            clear hy140
            have H' := Aside0.mk H
            clear H
            go_wp2_with (first | ((with_reducible refine gate_callee (f := 109) rfl ?_); refine sqL (some 14) Try.func109 #[.pointer (some ⟨g, 0, none⟩), .int .i64 6] ?_; (with_reducible refine (spec_l1Rd_pick.calls k1 g s0_0 x1001_1 6 t136 t137 w0 _ ?side1 ?side2 A6.out).mono ?_); (case side1 => repeat (first | (with_reducible first | exact HI0.out | apply IsS161.alloc | apply IsS161.drewN | apply IsS161.drew | apply IsS161.set_1) | exact HI0.out)); (case side2 => repeat (first | (with_reducible first | exact HB.out | apply below_alloc | apply pw_below_drewN | apply below_drew1 | refine below_set ?_ (IsS161.ge HI0.out)) | exact HB.out)); rintro e w10 ⟨rfl, hi, hb, hk⟩; refine ⟨_, rfl, ?_⟩; have n0_ := Aside0.mk (Kd.R_mono (Kd.R_keep (IsS161.apart (show IsS161 w0 _ g s0_0 x1001_1 from by repeat (first | (with_reducible first | exact HI0.out | apply IsS161.alloc | apply IsS161.drewN | apply IsS161.drew | apply IsS161.set_1) | exact HI0.out)) (by (with_reducible repeat (first | apply Kd.R_alloc | apply Kd.R_drewN | apply Kd.R_drew)); exact HO_5.out) (by decide)) hk (fun _ h => h.2)) (fun _ h => h.1)); have n1_ := Aside0.mk (KeepBut.trans (by repeat (first | (with_reducible first | exact HK.out | apply KeepBut.set_ | apply keep_drewN | apply keep_drew | apply keep_alloc) | exact HK.out)) hk (.inl rfl)); have n2_ := Aside0.mk (hb); have n3_ := Aside0.mk (hi); clear HO_5; clear HK; clear HB; clear HI0; have HO_5 := n0_; have HK := n1_; have HB := n2_; have HI0 := n3_; clear n0_ n1_ n2_ n3_; (try clear hb); (try clear hb2); (try clear hk); (try clear hi)) | ((with_reducible refine gate_callee (f := 195) rfl ?_); refine sqL (some 18) Try.func195 #[.pointer (some ⟨g, 0, none⟩)] ?_; (with_reducible refine (spec_l1Rd_num.calls k1 g s0_0 t137 t138 t139 w0 _ ?side1 ?side2 A8.out).mono ?_); (case side1 => repeat (first | (with_reducible first | exact HI0.out | apply IsS161.alloc | apply IsS161.drewN | apply IsS161.drew | apply IsS161.set_1) | exact HI0.out)); (case side2 => repeat (first | (with_reducible first | exact HB.out | apply below_alloc | apply pw_below_drewN | apply below_drew1 | refine below_set ?_ (IsS161.ge HI0.out)) | exact HB.out)); rintro e w11 ⟨rfl, hi, hb, hk⟩; refine ⟨_, rfl, ?_⟩; have n0_ := Aside0.mk (Kd.R_mono (Kd.R_keep (IsS161.apart (show IsS161 w0 _ g s0_0 t137 from by repeat (first | (with_reducible first | exact HI0.out | apply IsS161.alloc | apply IsS161.drewN | apply IsS161.drew | apply IsS161.set_1) | exact HI0.out)) (by (with_reducible repeat (first | apply Kd.R_alloc | apply Kd.R_drewN | apply Kd.R_drew)); exact HO_5.out) (by decide)) hk (fun _ h => h.2)) (fun _ h => h.1)); have n1_ := Aside0.mk (KeepBut.trans (by repeat (first | (with_reducible first | exact HK.out | apply KeepBut.set_ | apply keep_drewN | apply keep_drew | apply keep_alloc) | exact HK.out)) hk (.inl rfl)); have n2_ := Aside0.mk (hb); have n3_ := Aside0.mk (hi); clear HO_5; clear HK; clear HB; clear HI0; have HO_5 := n0_; have HK := n1_; have HB := n2_; have HI0 := n3_; clear n0_ n1_ n2_ n3_; (try clear hb); (try clear hb2); (try clear hk); (try clear hi)) | ((with_reducible refine gate_builtin (b := .append) (xs := #[.tmp 16, .tmp 19]) rfl ?_); at_builtin; refine Kd.R_append (Kd.int .i64) w.heap.size rfl (.tmp 16) (.tmp 19) 39 3 (.int .i64 0) 8 rfl Try.underlying39 info3 rfl (by decide) (by omega) u5 x5_1 t138 [.int .i64 t138] (fun _ => True) (fun _ => False) rfl rfl ?aP (fun _ hk => hk.elim) ?aF ?aO (Below.refl _ _) ?aS ?aL ?_; (case aP => exact rfl); (case aF => exact (fun _ _ => trivial)); (case aO => exact (by (with_reducible repeat (first | apply Kd.R_alloc | apply Kd.R_drewN | apply Kd.R_drew)); exact HO_5.out)); (case aS => exact (keep_size (w := w) (g := g) (row := none) (by repeat (first | (with_reducible first | exact HK.out | apply KeepBut.set_ | apply keep_drewN | apply keep_drew | apply keep_alloc) | exact HK.out)))); (case aL => have := LMc9.out; omega); intro v141 w12 ho hb hg hat; rw [← Ny140.out] at ho; have n0_ := Aside0.mk (IsS161.grown (by repeat (first | (with_reducible first | exact HI0.out | apply IsS161.alloc | apply IsS161.drewN | apply IsS161.drew | apply IsS161.set_1) | exact HI0.out)) hg (IsS161.own_ne HI0.out HO_5.out (by decide))); have n1_ := Aside0.mk (below_weaken (by repeat (first | (with_reducible first | exact HB.out | apply below_alloc | apply pw_below_drewN | apply below_drew1 | refine below_set ?_ (IsS161.ge HI0.out)) | exact HB.out)) HL.out hb); have n2_ := Aside0.mk (KeepBut.trans (by repeat (first | (with_reducible first | exact HK.out | apply KeepBut.set_ | apply keep_drewN | apply keep_drew | apply keep_alloc) | exact HK.out)) (KeepBut.of_grown hg g) (Kd.R_base2 HO_5.out)); have n3_ := Aside0.mk (ho); clear HI0; clear HB; clear HK; clear HO_5; have HI0 := n0_; have HB := n1_; have HK := n2_; have HO142 := n3_; clear n0_ n1_ n2_ n3_; clear ho hb hg hat))
            go_roundg k1
            case measure => have := HK1.out; omega
            case rel => exact ⟨(y140), (wrap64 (x6_1 + 1)), (t139), (by first | rfl | (simp; done) | (simp [*]; done)), H', ⟨by have := HK1.out; omega⟩, ⟨by (with_reducible repeat (first | apply Kd.R_alloc | apply Kd.R_drewN | apply Kd.R_drew)); exact HO142.out⟩, ⟨by repeat (first | (with_reducible first | exact HI0.out | apply IsS161.alloc | apply IsS161.drewN | apply IsS161.drew | apply IsS161.set_1) | exact HI0.out)⟩, ⟨by repeat (first | (with_reducible first | exact HK.out | apply KeepBut.set_ | apply keep_drewN | apply keep_drew | apply keep_alloc) | exact HK.out)⟩, ⟨by repeat (first | (with_reducible first | exact HB.out | apply below_alloc | apply pw_below_drewN | apply below_drew1 | refine below_set ?_ (IsS161.ge HI0.out)) | exact HB.out)⟩⟩
          · rw [if_neg c9] at H
            exact absurd H (by simp)
        · rw [if_neg c7] at H
          have c7b0 : (t136 == 0) = false := beq_eq_false_iff_ne.mpr c7
          have c7b1 : (t136 != 0) = true := bne_iff_ne.mpr c7
          replace H := Option.bind_eq_some_iff.mp H
          obtain ⟨⟨t143, t144⟩, A130, H⟩ := H
          replace H : (if x5_1.length < 17592186044416 then (spec_l11Numbers.l0 k1 a1 (x5_1 ++ [wrap64 (t143 - 10)]) (wrap64 (x6_1 + 1)) s0_0 t144) else (none)) = some (r1, r2) := H
          have A13 := Aside0.mk A130
          clear A130
          by_cases c14 : x5_1.length < 17592186044416
          · rw [if_pos c14] at H
            have LMc14 := Aside0.mk c14
            clear c14
            obtain ⟨y145, hy145⟩ : ∃ y_ : List Int, y_ = (x5_1 ++ [wrap64 (t143 - 10)]) := ⟨_, rfl⟩
            replace H : (spec_l11Numbers.l0 k1 a1 y145 (wrap64 (x6_1 + 1)) s0_0 t144) = some (r1, r2) := by first | (rw [hy145]; with_reducible exact H) | (have H2_ := (Option.bind_some _ _).symm.trans H; rw [hy145]; with_reducible exact H2_) | (have H2_ := (Option.bind_some _ _).symm.trans H; with_reducible exact H2_) | with_reducible exact H | (rw [hy145]; exact H) | exact H
            have Ny145 := Aside0.mk hy145
            clear hy145
            have H' := Aside0.mk H
            clear H
            go_wp2_with (first | ((with_reducible refine gate_callee (f := 109) rfl ?_); refine sqL (some 14) Try.func109 #[.pointer (some ⟨g, 0, none⟩), .int .i64 6] ?_; (with_reducible refine (spec_l1Rd_pick.calls k1 g s0_0 x1001_1 6 t136 t137 w0 _ ?side1 ?side2 A6.out).mono ?_); (case side1 => repeat (first | (with_reducible first | exact HI0.out | apply IsS161.alloc | apply IsS161.drewN | apply IsS161.drew | apply IsS161.set_1) | exact HI0.out)); (case side2 => repeat (first | (with_reducible first | exact HB.out | apply below_alloc | apply pw_below_drewN | apply below_drew1 | refine below_set ?_ (IsS161.ge HI0.out)) | exact HB.out)); rintro e w15 ⟨rfl, hi, hb, hk⟩; refine ⟨_, rfl, ?_⟩; have n0_ := Aside0.mk (Kd.R_mono (Kd.R_keep (IsS161.apart (show IsS161 w0 _ g s0_0 x1001_1 from by repeat (first | (with_reducible first | exact HI0.out | apply IsS161.alloc | apply IsS161.drewN | apply IsS161.drew | apply IsS161.set_1) | exact HI0.out)) (by (with_reducible repeat (first | apply Kd.R_alloc | apply Kd.R_drewN | apply Kd.R_drew)); exact HO_5.out) (by decide)) hk (fun _ h => h.2)) (fun _ h => h.1)); have n1_ := Aside0.mk (KeepBut.trans (by repeat (first | (with_reducible first | exact HK.out | apply KeepBut.set_ | apply keep_drewN | apply keep_drew | apply keep_alloc) | exact HK.out)) hk (.inl rfl)); have n2_ := Aside0.mk (hb); have n3_ := Aside0.mk (hi); clear HO_5; clear HK; clear HB; clear HI0; have HO_5 := n0_; have HK := n1_; have HB := n2_; have HI0 := n3_; clear n0_ n1_ n2_ n3_; (try clear hb); (try clear hb2); (try clear hk); (try clear hi)) | ((with_reducible refine gate_callee (f := 109) rfl ?_); refine sqL (some 23) Try.func109 #[.pointer (some ⟨g, 0, none⟩), .int .i64 21] ?_; (with_reducible refine (spec_l1Rd_pick.calls k1 g s0_0 t137 21 t143 t144 w0 _ ?side1 ?side2 A13.out).mono ?_); (case side1 => repeat (first | (with_reducible first | exact HI0.out | apply IsS161.alloc | apply IsS161.drewN | apply IsS161.drew | apply IsS161.set_1) | exact HI0.out)); (case side2 => repeat (first | (with_reducible first | exact HB.out | apply below_alloc | apply pw_below_drewN | apply below_drew1 | refine below_set ?_ (IsS161.ge HI0.out)) | exact HB.out)); rintro e w16 ⟨rfl, hi, hb, hk⟩; refine ⟨_, rfl, ?_⟩; have n0_ := Aside0.mk (Kd.R_mono (Kd.R_keep (IsS161.apart (show IsS161 w0 _ g s0_0 t137 from by repeat (first | (with_reducible first | exact HI0.out | apply IsS161.alloc | apply IsS161.drewN | apply IsS161.drew | apply IsS161.set_1) | exact HI0.out)) (by (with_reducible repeat (first | apply Kd.R_alloc | apply Kd.R_drewN | apply Kd.R_drew)); exact HO_5.out) (by decide)) hk (fun _ h => h.2)) (fun _ h => h.1)); have n1_ := Aside0.mk (KeepBut.trans (by repeat (first | (with_reducible first | exact HK.out | apply KeepBut.set_ | apply keep_drewN | apply keep_drew | apply keep_alloc) | exact HK.out)) hk (.inl rfl)); have n2_ := Aside0.mk (hb); have n3_ := Aside0.mk (hi); clear HO_5; clear HK; clear HB; clear HI0; have HO_5 := n0_; have HK := n1_; have HB := n2_; have HI0 := n3_; clear n0_ n1_ n2_ n3_; (try clear hb); (try clear hb2); (try clear hk); (try clear hi)) | ((with_reducible refine gate_builtin (b := .append) (xs := #[.tmp 21, .tmp 25]) rfl ?_); at_builtin; refine Kd.R_append (Kd.int .i64) w.heap.size rfl (.tmp 21) (.tmp 25) 39 3 (.int .i64 0) 8 rfl Try.underlying39 info3 rfl (by decide) (by omega) u5 x5_1 (wrap64 (t143 - 10)) [.int .i64 (wrap64 (t143 - 10))] (fun _ => True) (fun _ => False) rfl rfl ?aP (fun _ hk => hk.elim) ?aF ?aO (Below.refl _ _) ?aS ?aL ?_; (case aP => exact rfl); (case aF => exact (fun _ _ => trivial)); (case aO => exact (by (with_reducible repeat (first | apply Kd.R_alloc | apply Kd.R_drewN | apply Kd.R_drew)); exact HO_5.out)); (case aS => exact (keep_size (w := w) (g := g) (row := none) (by repeat (first | (with_reducible first | exact HK.out | apply KeepBut.set_ | apply keep_drewN | apply keep_drew | apply keep_alloc) | exact HK.out)))); (case aL => have := LMc14.out; omega); intro v146 w17 ho hb hg hat; rw [← Ny145.out] at ho; have n0_ := Aside0.mk (IsS161.grown (by repeat (first | (with_reducible first | exact HI0.out | apply IsS161.alloc | apply IsS161.drewN | apply IsS161.drew | apply IsS161.set_1) | exact HI0.out)) hg (IsS161.own_ne HI0.out HO_5.out (by decide))); have n1_ := Aside0.mk (below_weaken (by repeat (first | (with_reducible first | exact HB.out | apply below_alloc | apply pw_below_drewN | apply below_drew1 | refine below_set ?_ (IsS161.ge HI0.out)) | exact HB.out)) HL.out hb); have n2_ := Aside0.mk (KeepBut.trans (by repeat (first | (with_reducible first | exact HK.out | apply KeepBut.set_ | apply keep_drewN | apply keep_drew | apply keep_alloc) | exact HK.out)) (KeepBut.of_grown hg g) (Kd.R_base2 HO_5.out)); have n3_ := Aside0.mk (ho); clear HI0; clear HB; clear HK; clear HO_5; have HI0 := n0_; have HB := n1_; have HK := n2_; have HO147 := n3_; clear n0_ n1_ n2_ n3_; clear ho hb hg hat))
            go_roundg k1
            case measure => have := HK1.out; omega
            case rel => exact ⟨(y145), (wrap64 (x6_1 + 1)), (t144), (by first | rfl | (simp; done) | (simp [*]; done)), H', ⟨by have := HK1.out; omega⟩, ⟨by (with_reducible repeat (first | apply Kd.R_alloc | apply Kd.R_drewN | apply Kd.R_drew)); exact HO147.out⟩, ⟨by repeat (first | (with_reducible first | exact HI0.out | apply IsS161.alloc | apply IsS161.drewN | apply IsS161.drew | apply IsS161.set_1) | exact HI0.out)⟩, ⟨by repeat (first | (with_reducible first | exact HK.out | apply KeepBut.set_ | apply keep_drewN | apply keep_drew | apply keep_alloc) | exact HK.out)⟩, ⟨by repeat (first | (with_reducible first | exact HB.out | apply below_alloc | apply pw_below_drewN | apply below_drew1 | refine below_set ?_ (IsS161.ge HI0.out)) | exact HB.out)⟩⟩
          · rw [if_neg c14] at H
            exact absurd H (by simp)
      · rw [if_neg c5] at H
        have c5b0 : decide (x6_1 < a1) = false := decide_eq_false c5
        clear c5
        simp only [Option.some.injEq, Prod.mk.injEq] at H
        obtain ⟨rfl, rfl⟩ := H
        go_wp2
        go_ret
        exact ⟨_, by first | rfl | (simp [errW_none, errW_some] <;> rfl) | (simp [*, errW_none, errW_some] <;> rfl), by (with_reducible repeat (first | apply Kd.R_alloc | apply Kd.R_drewN | apply Kd.R_drew)); exact HO_5.out, by repeat (first | (with_reducible first | exact HI0.out | apply IsS161.alloc | apply IsS161.drewN | apply IsS161.drew | apply IsS161.set_1) | exact HI0.out), by repeat (first | (with_reducible first | exact HB.out | apply below_alloc | apply pw_below_drewN | apply below_drew1 | refine below_set ?_ (IsS161.ge HI0.out)) | exact HB.out), by repeat (first | (with_reducible first | exact HK.out | apply KeepBut.set_ | apply keep_drewN | apply keep_drew | apply keep_alloc) | exact HK.out)⟩

/-! ### spec_l11Put: function 116 -/
set_option maxHeartbeats 8000000 in
set_option maxRecDepth 100000 in
theorem spec_l11Put.calls (a0_0 : Int) (P0_1_ : Nat → Prop) (u9000_ : Value) (l0_1 : List Int) (a1 : Int) (a2 : Int) (a3 : Int) (r : List Int) (w0 w : World) (hB : Below w0.heap.size w0 w) (ho0_1 : Kd.R (Kd.int .i64) 3 w w0.heap.size P0_1_ u9000_ l0_1) (h : spec_l11Put.f a0_0 l0_1 a1 a2 a3 = some r) :
    Calls Try.prog 116 #[.agg #[.int .i64 a0_0, u9000_], .int .i64 a1, .int .i64 a2, .int .i64 a3] w fun e w' => e = .returned (.tuple #[]) ∧ Kd.R (Kd.int .i64) 3 w' w0.heap.size (fun k_ => (P0_1_ k_ ∨ w.heap.size ≤ k_)) u9000_ r ∧ Below w0.heap.size w0 w' ∧ Kept w w' (fun k_ => P0_1_ k_) := by
  have hu41 := Try.underlying41
  have HO0_1 := Aside0.mk (show Kd.R (Kd.int .i64) 3 w w0.heap.size (fun k_ => (P0_1_ k_ ∨ w.heap.size ≤ k_)) u9000_ l0_1 from Kd.R_mono ho0_1 (fun k_ hk => (.inl hk)))
  have HK := Aside0.mk (Kept.refl w (fun k_ => P0_1_ k_))
  have HW0 := Aside0.mk hB.size
  have HB := Aside0.mk hB
  clear hB
  have H : (if 0 ≤ (wrap64 ((wrap64 (a1 * (wrap64 (a0_0 + 1)))) + a2)) then (if (wrap64 ((wrap64 (a1 * (wrap64 (a0_0 + 1)))) + a2)) < (l0_1.length : Int) then (some (l0_1.set ((wrap64 ((wrap64 (a1 * (wrap64 (a0_0 + 1)))) + a2)) : Int).toNat a3)) else (none)) else (none)) = some r := h
  clear h
  obtain ⟨ji5, hji5⟩ : ∃ j_ : Int, (wrap64 ((wrap64 (a1 * (wrap64 (a0_0 + 1)))) + a2)) = j_ := ⟨_, rfl⟩
  replace H : (if 0 ≤ (ji5) then (if (ji5) < (l0_1.length : Int) then (some (l0_1.set ((ji5) : Int).toNat a3)) else (none)) else (none)) = some r := by first | (rw [hji5] at H; exact H) | (simp only [hji5] at H ⊢; exact H)
  have hji5w : (IntKind.i64.wrap ((wrap64 (a1 * (wrap64 (a0_0 + 1)))) + a2)) = ji5 := (i64_w _).trans hji5
  by_cases c6 : 0 ≤ (ji5)
  · rw [if_pos c6] at H
    have c6b0 : decide (0 ≤ (ji5)) = true := decide_eq_true c6
    clear c6
    by_cases c7 : (ji5) < (l0_1.length : Int)
    · rw [if_pos c7] at H
      have c7b0 : decide ((ji5) < (l0_1.length : Int)) = true := decide_eq_true c7
      clear c7
      obtain ⟨y149, hy149⟩ : ∃ y_ : List Int, y_ = (l0_1.set ((ji5) : Int).toNat a3) := ⟨_, rfl⟩
      replace H : (some y149) = some r := by first | (rw [hy149]; with_reducible exact H) | (have H2_ := (Option.bind_some _ _).symm.trans H; rw [hy149]; with_reducible exact H2_) | (have H2_ := (Option.bind_some _ _).symm.trans H; with_reducible exact H2_) | with_reducible exact H | (rw [hy149]; exact H) | exact H
      have Ny149 := Aside0.mk hy149
      clear hy149
      obtain rfl := Option.some.inj H
      obtain ⟨Ao9, co9, eo9⟩ := Kd.R_slice HO0_1.out
      subst eo9
      go_enter Try.func116, Try.ntmps116
      go_wp2_with (first | ((with_reducible refine gate_dst (N := 4) rfl ?_); refine sqx 4 #[.int .i64 a0_0, .slice Ao9 l0_1.length co9] 41 ?_; intro gb148 hg w10 hbox hb; have n0_ := Aside0.mk (Kd.R_below (by (with_reducible repeat (first | apply Kd.R_alloc | apply Kd.R_drewN | apply Kd.R_drew)); exact HO0_1.out) hb); have n1_ := Aside0.mk (Kept.below (S := (fun k_ => P0_1_ k_)) (by repeat (first | (with_reducible first | exact HK.out | apply Kept.alloc | apply Kept.drewN | apply Kept.drew) | exact HK.out)) hb); have n2_ := sqs HB hb; have n3_ := Aside0.mk (hbox); have n4_ := Aside0.mk ((by rw [hg]; exact (by first | exact HK.out.1 | exact (show Kept w _ (fun k_ => P0_1_ k_) from by repeat (first | (with_reducible first | exact HK.out | apply Kept.alloc | apply Kept.drewN | apply Kept.drew) | exact HK.out)).1) : w.heap.size ≤ gb148)); have n5_ := Aside0.mk ((by rw [hg]; exact (below_size (by repeat (first | (with_reducible first | exact HB.out | apply below_alloc | apply pw_below_drewN | apply below_drew1) | exact HB.out))) : w0.heap.size ≤ gb148)); clear HO0_1; clear HK; clear HB; have HO0_1 := n0_; have HK := n1_; have HB := n2_; have BK148 := n3_; have GW148 := n4_; have GE148 := n5_; clear n0_ n1_ n2_ n3_ n4_ n5_; clear hb hbox hg; obtain ⟨hcz11_0, hcz11_1, hfz11_0, hfz11_1⟩ := sqc2 BK148; have p8 : 0 ≤ ((ji5) : Int) := of_decide_eq_true (by first | (with_reducible assumption) | assumption); have q8 : ((ji5) : Int) < ((l0_1.length : Int) : Int) := of_decide_eq_true (by first | (with_reducible assumption) | assumption); obtain ⟨go8, co8, eo8, gb8, gl8, cl8, HG8⟩ := Kd.R_form HO0_1.out (by omega); (first | cases eo8 | (injection eo8 with ea_ en_ ec_; (first | subst ea_ | (injection ea_ with ea_; subst ea_)); subst ec_; clear en_)); have GB8 := Aside0.mk gb8; have GG8 := Aside0.mk HG8; clear gb8 gl8 HG8; have HMgo8 := Aside0.mk (show (P0_1_ go8 ∨ w.heap.size ≤ go8) from (HO0_1.out.1 _ rfl)); obtain ⟨hx8_0, hf8_0⟩ := Kd.R_celln 0 HO0_1.out ((ji5) : Int) p8 q8; replace p8 := eq_true p8; replace q8 := eq_true q8; obtain ⟨hy12_, hz12_⟩ := Kd.R_celln 0 HO0_1.out ((ji5) : Int) (of_decide_eq_true (by first | (with_reducible assumption) | assumption)) (of_decide_eq_true (by first | (with_reducible assumption) | assumption)); have HP12 := Kd.R_putg HO0_1.out ((ji5) : Int) a3) | ((with_reducible refine gate_store (t := 3) (p := 18) rfl ?_); refine store_event (t := 3) (p := 18) (v := ?vo_w13) (w1 := (w10.setCell ⟨go8, ((ji5) : Int).toNat, none⟩ (.int .i64 a3))) ?hg ?ho ?hn ?hr ?_; (case ho => rfl); (case hg => rfl); (case hn => rfl); (case hr => first | (go_simp; done) | (go_simp; rfl)); intro w13 hw; have hg : w10.grownBy w13 (some go8) := (by rw [hw]; exact HP12.2); have hp_ : Kd.R (Kd.int .i64) 3 w13 w0.heap.size (fun k_ => (P0_1_ k_ ∨ w.heap.size ≤ k_)) (.slice (some ⟨go8, 0, none⟩) l0_1.length co9) y149 := (by rw [hw, Ny149.out]; exact HP12.1); clear HP12; have n0_ := Aside0.mk (hp_); have n1_ := Aside0.mk (blk_grown (g := gb148) (o := .cells #[.int .i64 a0_0, .slice (some ⟨go8, 0, none⟩) l0_1.length co9] 41 (0, 0)) (by refine sqt ?_; exact BK148.out) hg (Kd.R_ne HO0_1.out BK148.out (by decide))); have n2_ := Aside0.mk ((by rw [hw]; exact below_set (HB.out) GB8.out : Below w0.heap.size w0 w13)); have n3_ := Aside0.mk (Kept.of_grown (S := (fun k_ => P0_1_ k_)) hg (by repeat (first | (with_reducible first | exact HK.out | apply Kept.alloc | apply Kept.drewN | apply Kept.drew | refine Kept.setCell ?_ (.inr GW148.out) _) | exact HK.out)) (fun k_ e_ => (HO0_1.out.1 k_ e_))); clear HO0_1; clear BK148; clear HB; clear HK; have HO0_1 := n0_; have BK148 := n1_; have HB := n2_; have HK := n3_; clear n0_ n1_ n2_ n3_; clear hg hw hp_))
      first | go_end0 | ((try simp only [Exit.inBlock, Exit.then]); refine bodyPost_ret (results_none rfl _ _ _) rfl ?_)
      exact ⟨by first | rfl | (simp [errW_none, errW_some] <;> rfl) | (simp only [← hji5]; first | rfl | (simp [errW_none, errW_some] <;> rfl)) | (simp [*, errW_none, errW_some] <;> rfl), by (with_reducible repeat (first | apply Kd.R_alloc | apply Kd.R_drewN | apply Kd.R_drew)); exact HO0_1.out, by repeat (first | (with_reducible first | exact HB.out | apply below_alloc | apply pw_below_drewN | apply below_drew1 | refine below_set ?_ GE148.out) | exact HB.out), by repeat (first | (with_reducible first | exact HK.out | apply Kept.alloc | apply Kept.drewN | apply Kept.drew | refine Kept.setCell ?_ (.inr GW148.out) _) | exact HK.out)⟩
    · rw [if_neg c7] at H
      exact absurd H (by simp)
  · rw [if_neg c6] at H
    exact absurd H (by simp)

/-! ### spec_l11Num: function 119 -/
set_option maxHeartbeats 8000000 in
set_option maxRecDepth 100000 in
theorem spec_l11Num.calls (A0 : Option Addr) (c0 : Nat) (l0 : List Int) (a1 : Int) (r : Int) (w : World) (hr0 : Kd.C (Kd.int .i64) w A0 l0.length l0) (hc0 : l0.length ≤ c0) (h : spec_l11Num.f l0 a1 = some r) :
    Calls Try.prog 119 #[.slice A0 l0.length c0, .int .i64 a1] w fun e w' => e = .returned (.int .i64 r) ∧ Drawn0 w w' := by
  have HR0 := Aside0.mk hr0
  have HC0 := Aside0.mk hc0
  clear hr0 hc0
  have H : (if a1 = 0 then (some 0) else (if 0 ≤ (wrap64 (a1 - 1)) then (if (wrap64 (a1 - 1)) < (l0.length : Int) then (some (rd l0 (wrap64 (a1 - 1)))) else (none)) else (none))) = some r := h
  clear h
  by_cases c3 : a1 = 0
  · rw [if_pos c3] at H
    have c3b0 : (a1 == 0) = true := beq_iff_eq.mpr c3
    have c3b1 : (a1 != 0) = false := bne_eq_false_iff_eq.mpr c3
    clear c3
    obtain rfl := Option.some.inj H
    go_enter Try.func119, Try.ntmps119
    go_wp2
    go_ret
    exact ⟨by first | rfl | (simp; done) | (simp [*]; done), by repeat (first | exact Drawn0.refl _ | apply Drawn0.step)⟩
  · rw [if_neg c3] at H
    have c3b0 : (a1 == 0) = false := beq_eq_false_iff_ne.mpr c3
    have c3b1 : (a1 != 0) = true := bne_iff_ne.mpr c3
    obtain ⟨ji4, hji4⟩ : ∃ j_ : Int, (wrap64 (a1 - 1)) = j_ := ⟨_, rfl⟩
    replace H : (if 0 ≤ (ji4) then (if (ji4) < (l0.length : Int) then (some (rd l0 (ji4))) else (none)) else (none)) = some r := by first | (rw [hji4] at H; exact H) | (simp only [hji4] at H ⊢; exact H)
    have hji4w : (IntKind.i64.wrap (a1 - 1)) = ji4 := (i64_w _).trans hji4
    by_cases c5 : 0 ≤ (ji4)
    · rw [if_pos c5] at H
      have c5b0 : decide (0 ≤ (ji4)) = true := decide_eq_true c5
      clear c5
      by_cases c6 : (ji4) < (l0.length : Int)
      · rw [if_pos c6] at H
        have c6b0 : decide ((ji4) < (l0.length : Int)) = true := decide_eq_true c6
        clear c6
        obtain rfl := Option.some.inj H
        have p150 : 0 ≤ ((ji4) : Int) := of_decide_eq_true (by first | (with_reducible assumption) | assumption)
        have q150 : (ji4) < (l0.length : Int) := of_decide_eq_true (by first | (with_reducible assumption) | assumption)
        obtain ⟨ad150, e150, hx150_0⟩ := Kd.at_int HR0.out (ji4) p150 q150
        cases e150
        replace p150 := eq_true p150
        replace q150 := eq_true q150
        go_enter Try.func119, Try.ntmps119
        go_wp2
        go_ret
        exact ⟨by first | rfl | (simp; done) | (simp only [← hji4] <;> (first | rfl | simp)) | (simp [*]; done), by repeat (first | exact Drawn0.refl _ | apply Drawn0.step)⟩
      · rw [if_neg c6] at H
        exact absurd H (by simp)
    · rw [if_neg c5] at H
      exact absurd H (by simp)

/-! ### spec_l1In: function 105 -/
set_option maxHeartbeats 8000000 in
set_option maxRecDepth 100000 in
theorem spec_l1In.calls (a0 : Int) (a1 : Int) (a2 : Int) (r : Bool) (w : World) (h : spec_l1In.f a0 a1 a2 = some r) :
    Calls Try.prog 105 #[.int .i64 a0, .int .i64 a1, .int .i64 a2] w fun e w' => e = .returned (.bool r) ∧ Drawn0 w w' := by
  have H : (if a0 ≥ a1 then (some (decide (a0 ≤ a2))) else (some false)) = some r := h
  clear h
  by_cases c4 : a0 ≥ a1
  · rw [if_pos c4] at H
    have c4b0 : decide (a1 ≤ a0) = true := decide_eq_true c4
    clear c4
    obtain rfl := Option.some.inj H
    go_enter Try.func105, Try.ntmps105
    go_wp2
    go_ret
    exact ⟨by first | rfl | (simp; done) | (simp [*]; done), by repeat (first | exact Drawn0.refl _ | apply Drawn0.step)⟩
  · rw [if_neg c4] at H
    have c4b0 : decide (a1 ≤ a0) = false := decide_eq_false c4
    clear c4
    obtain rfl := Option.some.inj H
    go_enter Try.func105, Try.ntmps105
    go_wp2
    go_ret
    exact ⟨by first | rfl | (simp; done) | (simp [*]; done), by repeat (first | exact Drawn0.refl _ | apply Drawn0.step)⟩

/-! ### spec_GapsTop: function 196 -/
theorem spec_GapsTop.mono_l : ∀ k, (∀ y0 y1 y2 y3, LeO (spec_GapsTop.l0 k y0 y1 y2 y3) (spec_GapsTop.l0 (k + 1) y0 y1 y2 y3)) ∧ (∀ y0 y1 y2 y3 y4, LeO (spec_GapsTop.l1 k y0 y1 y2 y3 y4) (spec_GapsTop.l1 (k + 1) y0 y1 y2 y3 y4))
  | 0 => ⟨fun _ _ _ _ r h => by simp [spec_GapsTop.l0] at h, fun _ _ _ _ _ r h => by simp [spec_GapsTop.l1] at h⟩
  | k + 1 => by
    obtain ⟨ih0, ih1⟩ := spec_GapsTop.mono_l k
    refine ⟨?_, ?_⟩
    · intro y0 y1 y2 y3
      unfold spec_GapsTop.l0
      repeat' first
      | (with_reducible exact ih0 _ _ _ _)
      | (with_reducible exact ih1 _ _ _ _ _)
      | (with_reducible exact LeO.refl _)
      | (with_reducible exact LeO.none _)
      | (with_reducible refine LeO.ite ?_ ?_)
      | (with_reducible refine LeO.bind ?_ (fun _ => ?_))
      | exact ih0 _ _ _ _
      | exact ih1 _ _ _ _ _
      | exact LeO.none _
      | refine LeO.ite ?_ ?_
      | refine LeO.bind ?_ (fun _ => ?_)
    · intro y0 y1 y2 y3 y4
      unfold spec_GapsTop.l1
      repeat' first
      | (with_reducible exact ih0 _ _ _ _)
      | (with_reducible exact ih1 _ _ _ _ _)
      | (with_reducible exact LeO.refl _)
      | (with_reducible exact LeO.none _)
      | (with_reducible refine LeO.ite ?_ ?_)
      | (with_reducible refine LeO.bind ?_ (fun _ => ?_))
      | exact ih0 _ _ _ _
      | exact ih1 _ _ _ _ _
      | exact LeO.none _
      | refine LeO.ite ?_ ?_
      | refine LeO.bind ?_ (fun _ => ?_)
theorem spec_GapsTop.mono : ∀ a0 k, LeO (spec_GapsTop.f k a0) (spec_GapsTop.f (k + 1) a0) := by
  intro a0 k
  obtain ⟨ih0, ih1⟩ := spec_GapsTop.mono_l k
  unfold spec_GapsTop.f
  repeat' first
      | (with_reducible exact ih0 _ _ _ _)
      | (with_reducible exact ih1 _ _ _ _ _)
      | (with_reducible exact LeO.refl _)
      | (with_reducible exact LeO.none _)
      | (with_reducible refine LeO.ite ?_ ?_)
      | (with_reducible refine LeO.bind ?_ (fun _ => ?_))
      | exact ih0 _ _ _ _
      | exact ih1 _ _ _ _ _
      | exact LeO.none _
      | refine LeO.ite ?_ ?_
      | refine LeO.bind ?_ (fun _ => ?_)
set_option maxHeartbeats 8000000 in
set_option maxRecDepth 100000 in
theorem spec_GapsTop.calls (k : Nat) (a0 : Int) (r1 : Int) (r2 : List Int) (w : World) (h : spec_GapsTop.f k a0 = some (r1, r2)) :
    Calls Try.prog 196 #[.int .i64 a0] w fun e w' => ∃ v1_ : Value, e = .returned (.agg #[.int .i64 r1, v1_]) ∧ Kd.R (Kd.int .i64) 3 w' w.heap.size (fun _ => True) v1_ r2 ∧ Below w.heap.size w w' := by
  have hu41 := Try.underlying41
  have HB := Aside0.mk (Below.refl w.heap.size w)
  have H : ((spec_l1In.f a0 0 12).bind fun t152 => (if t152 = true then (spec_GapsTop.l0 k a0 0 a0 ([] : List Int)) else (some (0, ([] : List Int))))) = some (r1, r2) := h
  clear h
  replace H := Option.bind_eq_some_iff.mp H
  obtain ⟨t152, A20, H⟩ := H
  replace H : (if t152 = true then (spec_GapsTop.l0 k a0 0 a0 ([] : List Int)) else (some (0, ([] : List Int)))) = some (r1, r2) := H
  have A2 := Aside0.mk A20
  clear A20
  by_cases c3 : t152 = true
  · subst c3
    have H1 : (spec_GapsTop.l0 k a0 0 a0 ([] : List Int)) = some (r1, r2) := by rw [if_pos rfl] at H; exact H
    clear H
    have H := H1
    clear H1
    have H' := Aside0.mk H
    clear H
    go_enter Try.func196, Try.ntmps196
    go_wp2_with (first | ((with_reducible refine gate_dst (N := 2) rfl ?_); refine sqx 2 #[.int .i64 0, .slice none 0 0] 41 ?_; intro gb151 hg w4 hbox hb; have BK151 := Aside0.mk (hbox); have GW151 := sqg HB hg; have GE151 := sqg HB hg; replace HB := sqs HB hb; clear hb hbox hg) | ((with_reducible refine gate_callee (f := 105) rfl ?_); refine sqL (some 8) Try.func105 #[.int .i64 a0, .int .i64 0, .int .i64 12] ?_; (with_reducible refine (spec_l1In.calls a0 0 12 true _ A2.out).mono ?_); rintro e w' ⟨rfl, ⟨nd, rfl⟩⟩; refine ⟨_, rfl, ?_⟩; (try (rw [drewN_self w4]; generalize hq_ : World.drewN w4 _ = w4; replace BK151 := sqq BK151 hq_; replace HB := sqr HB hq_; clear hq_; obtain ⟨hqz1_0, hqz1_1, hqf1_0, hqf1_1⟩ := sqc2 BK151))) | ((with_reducible refine gate_dst (N := 3) rfl ?_); refine sqx 3 #[.int .i64 0, .slice none 0 0] 41 ?_; intro gb153 hg w5 hbox hb; have BK153 := Aside0.mk (hbox); have GW153 := sqg HB hg; have GE153 := sqg HB hg; have NB151_153 := sqn BK151 hg; have NB153_151 := sqm BK151 hg; replace BK151 := sqb BK151 hb; replace HB := sqs HB hb; clear hb hbox hg; have hnb6 := NB153_151.out; have hnc6 := NB151_153.out; obtain ⟨hcz7_0, hcz7_1, hfz7_0, hfz7_1⟩ := sqc2 BK153))
    go_loopg [4] k (fun kq v4 w' => ∃ (x4_1 : Int) (x154001_1 : List Int) (u154001 : Value), v4 = .int .i64 x4_1 ∧ Aside0 (spec_GapsTop.l0 kq a0 x4_1 a0 x154001_1 = some (r1, r2)) ∧ Aside0 (kq ≤ k) ∧ Aside0 (Kd.R (Kd.int .i64) 3 w' w.heap.size (fun _ => True) u154001 x154001_1) ∧ Aside0 (w'.heap[gb151]? = some (.cells #[.int .i64 0, (.slice none 0 0)] 41 (0, 0))) ∧ Aside0 (w'.heap[gb153]? = some (.cells #[.int .i64 a0, u154001] 41 (0, 0))) ∧ Aside0 (Below w.heap.size w w'))
    case atStart => exact ⟨(0), (([] : List Int)), (.slice none 0 0), (by first | rfl | (simp; done) | (simp [*]; done)), H', ⟨Nat.le_refl _⟩, ⟨by first | exact Kd.R_nil _ _ _ _ _ | exact Kd.N_nil _ _ _ _ _ | exact Kd.V_nil _ _ _ _ _ | exact Kd.Q_nil _ _ _ _ _ | exact Kd.S_nil _ _ _ _ _⟩, ⟨by refine sqt ?_; refine blk_far ?_ NB151_153.out _; refine sqt ?_; refine blk_far ?_ NB151_153.out _; refine sqt ?_; exact BK151.out⟩, ⟨by refine sqt ?_; refine blk_put (cs := #[.int .i64 a0, .slice none 0 0]) ?_ 1 _ rfl; refine sqt ?_; refine blk_put (cs := #[.int .i64 0, .slice none 0 0]) ?_ 0 _ rfl; refine sqt ?_; exact BK153.out⟩, sqh HB⟩
    case round =>
      clear H'
      try clear c1
      try clear p2
      try clear c3
      try clear c6
      try clear hcz7_0
      try clear hcz7_1
      try clear hfz7_0
      try clear hfz7_1
      obtain ⟨x4_1, x154001_1, u154001, rfl, HA, HK1, HO_154001, BK151, BK153, HB⟩ := hrel
      cases gk with
      | zero => exact absurd HA.out (by simp [spec_GapsTop.l0])
      | succ k1 =>
        have H := HA.out
        clear HA
        simp only [spec_GapsTop.l0] at H
        by_cases c8 : x4_1 ≤ a0
        · rw [if_pos c8] at H
          have c8b0 : decide (x4_1 ≤ a0) = true := decide_eq_true c8
          clear c8
          have H' := Aside0.mk H
          clear H
          go_wp2
          go_loopg [5] k1 (fun kq v5 w' => ∃ (x5_2 : Int) (x154001_2 : List Int) (u154001 : Value), v5 = .int .i64 x5_2 ∧ Aside0 (spec_GapsTop.l1 kq a0 x4_1 x5_2 a0 x154001_2 = some (r1, r2)) ∧ Aside0 (kq ≤ k1) ∧ Aside0 (Kd.R (Kd.int .i64) 3 w' w.heap.size (fun _ => True) u154001 x154001_2) ∧ Aside0 (w'.heap[gb151]? = some (.cells #[.int .i64 0, (.slice none 0 0)] 41 (0, 0))) ∧ Aside0 (w'.heap[gb153]? = some (.cells #[.int .i64 a0, u154001] 41 (0, 0))) ∧ Aside0 (Below w.heap.size w w'))
          case atStart => exact ⟨(0), (x154001_1), (u154001), (by first | rfl | (simp; done) | (simp [*]; done)), H', ⟨Nat.le_refl _⟩, ⟨by (with_reducible repeat (first | apply Kd.R_alloc | apply Kd.R_drewN | apply Kd.R_drew)); exact HO_154001.out⟩, sqk BK151, sqk BK153, sqh HB⟩
          case round =>
            clear H'
            try clear c1
            try clear p2
            try clear c3
            try clear c6
            try clear c8
            try clear c8b0
            try clear hcz7_0
            try clear hcz7_1
            try clear hfz7_0
            try clear hfz7_1
            try clear p2
            obtain ⟨x5_2, x154001_2, u154001, rfl, HA, HK2, HO_154001, BK151, BK153, HB⟩ := hrel
            cases gk with
            | zero => exact absurd HA.out (by simp [spec_GapsTop.l1])
            | succ k2 =>
              have H := HA.out
              clear HA
              simp only [spec_GapsTop.l1] at H
              by_cases c9 : x5_2 ≤ a0
              · rw [if_pos c9] at H
                have c9b0 : decide (x5_2 ≤ a0) = true := decide_eq_true c9
                clear c9
                by_cases c10 : x4_1 = x5_2
                · rw [if_pos c10] at H
                  have c10b0 : (x4_1 == x5_2) = true := beq_iff_eq.mpr c10
                  have c10b1 : (x4_1 != x5_2) = false := bne_eq_false_iff_eq.mpr c10
                  clear c10
                  by_cases c11 : x154001_2.length < 17592186044416
                  · rw [if_pos c11] at H
                    have LMc11 := Aside0.mk c11
                    clear c11
                    obtain ⟨y154, hy154⟩ : ∃ y_ : List Int, y_ = (x154001_2 ++ [0]) := ⟨_, rfl⟩
                    replace H : (spec_GapsTop.l1 k2 a0 x4_1 (wrap64 (x5_2 + 1)) a0 y154) = some (r1, r2) := by first | (rw [hy154]; with_reducible exact H) | (have H2_ := (Option.bind_some _ _).symm.trans H; rw [hy154]; with_reducible exact H2_) | (have H2_ := (Option.bind_some _ _).symm.trans H; with_reducible exact H2_) | with_reducible exact H | (rw [hy154]; exact H) | exact H
                    have Ny154 := Aside0.mk hy154
                    clear hy154
                    have H' := Aside0.mk H
                    clear H
                    have hnb12 := NB153_151.out
                    have hnc12 := NB151_153.out
                    obtain ⟨hcz13_0, hcz13_1, hfz13_0, hfz13_1⟩ := sqc2 BK153
                    go_wp2_with (first | ((with_reducible refine gate_builtin (b := .append) (xs := #[.tmp 27, .tmp 29]) rfl ?_); at_builtin; refine Kd.R_append (Kd.int .i64) (w0 := w) w.heap.size rfl (.tmp 27) (.tmp 29) 39 3 (.int .i64 0) 8 rfl Try.underlying39 info3 rfl (by decide) (by omega) u154001 x154001_2 0 [.int .i64 0] (fun _ => True) (fun _ => False) rfl rfl ?aP (fun _ hk => hk.elim) ?aF ?aO ?aB ?aS ?aL ?_; (case aP => exact rfl); (case aB => exact (by repeat (first | (with_reducible first | exact HB.out | apply below_alloc | apply pw_below_drewN | apply below_drew1 | refine below_set ?_ GE151.out | refine below_set ?_ GE153.out) | exact HB.out))); (case aF => exact (fun _ _ => trivial)); (case aO => exact (by (with_reducible repeat (first | apply Kd.R_alloc | apply Kd.R_drewN | apply Kd.R_drew)); exact HO_154001.out)); (case aS => exact (below_size (by repeat (first | (with_reducible first | exact HB.out | apply below_alloc | apply pw_below_drewN | apply below_drew1 | refine below_set ?_ GE151.out | refine below_set ?_ GE153.out) | exact HB.out)))); (case aL => have := LMc11.out; omega); intro v155 w14 ho hb hg hat; rw [← Ny154.out] at ho; have n0_ := Aside0.mk (blk_grown (g := gb151) (o := .cells #[.int .i64 0, .slice none 0 0] 41 (0, 0)) (by refine sqt ?_; exact BK151.out) hg (Kd.R_ne HO_154001.out BK151.out (by decide))); have n1_ := Aside0.mk (blk_grown (g := gb153) (o := .cells #[.int .i64 a0, u154001] 41 (0, 0)) (by refine sqt ?_; exact BK153.out) hg (Kd.R_ne HO_154001.out BK153.out (by decide))); have n2_ := Aside0.mk (hb); have n3_ := Aside0.mk (ho); clear BK151; clear BK153; clear HB; clear HO_154001; have BK151 := n0_; have BK153 := n1_; have HB := n2_; have HO156 := n3_; clear n0_ n1_ n2_ n3_; clear ho hb hg hat; obtain ⟨Ao15, co15, eo15⟩ := Kd.R_slice HO156.out; subst eo15; obtain ⟨hcz16_0, hcz16_1, hfz16_0, hfz16_1⟩ := sqc2 BK153))
                    go_roundg k2
                    case measure => have := HK1.out; have := HK2.out; omega
                    case rel => exact ⟨(wrap64 (x5_2 + 1)), (y154), (.slice Ao15 y154.length co15), (by first | rfl | (simp; done) | (simp [*]; done)), H', ⟨by have := HK1.out; have := HK2.out; omega⟩, ⟨by (with_reducible repeat (first | apply Kd.R_alloc | apply Kd.R_drewN | apply Kd.R_drew)); exact Kd.R_mono (Kd.R_far (p := ⟨gb153, 1, none⟩) (Kd.R_types HO156.out BK153.out (by decide)) (fun _ hk => hk.2) (.slice Ao15 y154.length co15)) (fun _ hk => trivial)⟩, ⟨by refine sqt ?_; refine blk_far ?_ NB151_153.out _; refine sqt ?_; exact BK151.out⟩, ⟨by refine sqt ?_; refine blk_put (cs := #[.int .i64 a0, u154001]) ?_ 1 _ rfl; refine sqt ?_; exact BK153.out⟩, sqh HB⟩
                  · rw [if_neg c11] at H
                    exact absurd H (by simp)
                · rw [if_neg c10] at H
                  have c10b0 : (x4_1 == x5_2) = false := beq_eq_false_iff_ne.mpr c10
                  have c10b1 : (x4_1 != x5_2) = true := bne_iff_ne.mpr c10
                  by_cases c17 : x154001_2.length < 17592186044416
                  · rw [if_pos c17] at H
                    have LMc17 := Aside0.mk c17
                    clear c17
                    obtain ⟨y157, hy157⟩ : ∃ y_ : List Int, y_ = (x154001_2 ++ [1099511627776]) := ⟨_, rfl⟩
                    replace H : (spec_GapsTop.l1 k2 a0 x4_1 (wrap64 (x5_2 + 1)) a0 y157) = some (r1, r2) := by first | (rw [hy157]; with_reducible exact H) | (have H2_ := (Option.bind_some _ _).symm.trans H; rw [hy157]; with_reducible exact H2_) | (have H2_ := (Option.bind_some _ _).symm.trans H; with_reducible exact H2_) | with_reducible exact H | (rw [hy157]; exact H) | exact H
                    have Ny157 := Aside0.mk hy157
                    clear hy157
                    have H' := Aside0.mk H
                    clear H
                    have hnb18 := NB153_151.out
                    have hnc18 := NB151_153.out
                    obtain ⟨hcz19_0, hcz19_1, hfz19_0, hfz19_1⟩ := sqc2 BK153
                    go_wp2_with (first | ((with_reducible refine gate_builtin (b := .append) (xs := #[.tmp 27, .tmp 29]) rfl ?_); at_builtin; refine Kd.R_append (Kd.int .i64) (w0 := w) w.heap.size rfl (.tmp 27) (.tmp 29) 39 3 (.int .i64 0) 8 rfl Try.underlying39 info3 rfl (by decide) (by omega) u154001 x154001_2 1099511627776 [.int .i64 1099511627776] (fun _ => True) (fun _ => False) rfl rfl ?aP (fun _ hk => hk.elim) ?aF ?aO ?aB ?aS ?aL ?_; (case aP => exact rfl); (case aB => exact (by repeat (first | (with_reducible first | exact HB.out | apply below_alloc | apply pw_below_drewN | apply below_drew1 | refine below_set ?_ GE151.out | refine below_set ?_ GE153.out) | exact HB.out))); (case aF => exact (fun _ _ => trivial)); (case aO => exact (by (with_reducible repeat (first | apply Kd.R_alloc | apply Kd.R_drewN | apply Kd.R_drew)); exact HO_154001.out)); (case aS => exact (below_size (by repeat (first | (with_reducible first | exact HB.out | apply below_alloc | apply pw_below_drewN | apply below_drew1 | refine below_set ?_ GE151.out | refine below_set ?_ GE153.out) | exact HB.out)))); (case aL => have := LMc17.out; omega); intro v158 w20 ho hb hg hat; rw [← Ny157.out] at ho; have n0_ := Aside0.mk (blk_grown (g := gb151) (o := .cells #[.int .i64 0, .slice none 0 0] 41 (0, 0)) (by refine sqt ?_; exact BK151.out) hg (Kd.R_ne HO_154001.out BK151.out (by decide))); have n1_ := Aside0.mk (blk_grown (g := gb153) (o := .cells #[.int .i64 a0, u154001] 41 (0, 0)) (by refine sqt ?_; exact BK153.out) hg (Kd.R_ne HO_154001.out BK153.out (by decide))); have n2_ := Aside0.mk (hb); have n3_ := Aside0.mk (ho); clear BK151; clear BK153; clear HB; clear HO_154001; have BK151 := n0_; have BK153 := n1_; have HB := n2_; have HO159 := n3_; clear n0_ n1_ n2_ n3_; clear ho hb hg hat; obtain ⟨Ao21, co21, eo21⟩ := Kd.R_slice HO159.out; subst eo21; obtain ⟨hcz22_0, hcz22_1, hfz22_0, hfz22_1⟩ := sqc2 BK153))
                    go_roundg k2
                    case measure => have := HK1.out; have := HK2.out; omega
                    case rel => exact ⟨(wrap64 (x5_2 + 1)), (y157), (.slice Ao21 y157.length co21), (by first | rfl | (simp; done) | (simp [*]; done)), H', ⟨by have := HK1.out; have := HK2.out; omega⟩, ⟨by (with_reducible repeat (first | apply Kd.R_alloc | apply Kd.R_drewN | apply Kd.R_drew)); exact Kd.R_mono (Kd.R_far (p := ⟨gb153, 1, none⟩) (Kd.R_types HO159.out BK153.out (by decide)) (fun _ hk => hk.2) (.slice Ao21 y157.length co21)) (fun _ hk => trivial)⟩, ⟨by refine sqt ?_; refine blk_far ?_ NB151_153.out _; refine sqt ?_; exact BK151.out⟩, ⟨by refine sqt ?_; refine blk_put (cs := #[.int .i64 a0, u154001]) ?_ 1 _ rfl; refine sqt ?_; exact BK153.out⟩, sqh HB⟩
                  · rw [if_neg c17] at H
                    exact absurd H (by simp)
              · rw [if_neg c9] at H
                have c9b0 : decide (x5_2 ≤ a0) = false := decide_eq_false c9
                clear c9
                have H' := Aside0.mk H
                clear H
                go_wp2
                go_roundg k2
                case measure => have := HK1.out; have := HK2.out; omega
                case rel => exact ⟨(wrap64 (x4_1 + 1)), (x154001_2), (u154001), (by first | rfl | (simp; done) | (simp [*]; done)), H', ⟨by have := HK1.out; have := HK2.out; omega⟩, ⟨by (with_reducible repeat (first | apply Kd.R_alloc | apply Kd.R_drewN | apply Kd.R_drew)); exact HO_154001.out⟩, sqk BK151, sqk BK153, sqh HB⟩
        · rw [if_neg c8] at H
          have c8b0 : decide (x4_1 ≤ a0) = false := decide_eq_false c8
          clear c8
          simp only [Option.some.injEq, Prod.mk.injEq] at H
          obtain ⟨rfl, rfl⟩ := H
          have hnb23 := NB153_151.out
          have hnc23 := NB151_153.out
          obtain ⟨hcz24_0, hcz24_1, hfz24_0, hfz24_1⟩ := sqc2 BK153
          obtain ⟨hcz25_0, hcz25_1, hfz25_0, hfz25_1⟩ := sqc2 BK151
          obtain ⟨Ao26, co26, eo26⟩ := Kd.R_slice HO_154001.out
          subst eo26
          go_wp2
          refine bodyPost_ret (results_cell_row rfl _ _ gb151 41 #[.int .i64 a0, .slice Ao26 x154001_1.length co26] (0, 0) _ rfl (by refine sqt ?_; refine blk_put (cs := #[.int .i64 a0, .slice none 0 0]) ?_ 1 _ rfl; refine sqt ?_; refine blk_put (cs := #[.int .i64 0, .slice none 0 0]) ?_ 0 _ rfl; refine sqt ?_; exact BK151.out) Try.underlying41 rfl (by kernel_rfl)) rfl ?_
          exact ⟨_, by first | rfl | (simp [errW_none, errW_some] <;> rfl) | (simp [*, errW_none, errW_some] <;> rfl), by (with_reducible repeat (first | apply Kd.R_alloc | apply Kd.R_drewN | apply Kd.R_drew)); exact Kd.R_mono (Kd.R_far (p := ⟨gb151, 1, none⟩) (Kd.R_far (p := ⟨gb151, 0, none⟩) (Kd.R_types HO_154001.out BK151.out (by decide)) (fun _ hk => hk.2) (.int .i64 a0)) (fun _ hk => hk.2) (.slice Ao26 x154001_1.length co26)) (fun _ hk => trivial), by repeat (first | (with_reducible first | exact HB.out | apply below_alloc | apply pw_below_drewN | apply below_drew1 | refine below_set ?_ GE151.out | refine below_set ?_ GE153.out) | exact HB.out)⟩
  · replace c3 := Bool.eq_false_iff.mpr c3
    subst c3
    have H1 : (some (0, ([] : List Int))) = some (r1, r2) := by rw [if_neg (show ¬ (false = true) by decide)] at H; exact H
    clear H
    have H := H1
    clear H1
    simp only [Option.some.injEq, Prod.mk.injEq] at H
    obtain ⟨rfl, rfl⟩ := H
    go_enter Try.func196, Try.ntmps196
    go_wp2_with (first | ((with_reducible refine gate_dst (N := 2) rfl ?_); refine sqx 2 #[.int .i64 0, .slice none 0 0] 41 ?_; intro gb151 hg w27 hbox hb; have BK151 := Aside0.mk (hbox); have GW151 := sqg HB hg; have GE151 := sqg HB hg; replace HB := sqs HB hb; clear hb hbox hg) | ((with_reducible refine gate_callee (f := 105) rfl ?_); refine sqL (some 8) Try.func105 #[.int .i64 a0, .int .i64 0, .int .i64 12] ?_; (with_reducible refine (spec_l1In.calls a0 0 12 false _ A2.out).mono ?_); rintro e w' ⟨rfl, ⟨nd, rfl⟩⟩; refine ⟨_, rfl, ?_⟩; (try (rw [drewN_self w27]; generalize hq_ : World.drewN w27 _ = w27; replace BK151 := sqq BK151 hq_; replace HB := sqr HB hq_; clear hq_; obtain ⟨hqz2_0, hqz2_1, hqf2_0, hqf2_1⟩ := sqc2 BK151)); obtain ⟨hcz28_0, hcz28_1, hfz28_0, hfz28_1⟩ := sqc2 BK151))
    refine bodyPost_ret (results_cell_row rfl _ _ gb151 41 #[.int .i64 0, .slice none 0 0] (0, 0) _ rfl (by refine sqt ?_; refine blk_put (cs := #[.int .i64 0, .slice none 0 0]) ?_ 1 _ rfl; refine sqt ?_; refine blk_put (cs := #[.int .i64 0, .slice none 0 0]) ?_ 0 _ rfl; refine sqt ?_; exact BK151.out) Try.underlying41 rfl (by kernel_rfl)) rfl ?_
    exact ⟨_, by first | rfl | (simp [errW_none, errW_some] <;> rfl) | (simp [*, errW_none, errW_some] <;> rfl), by first | exact Kd.R_nil _ _ _ _ _ | exact Kd.N_nil _ _ _ _ _ | exact Kd.V_nil _ _ _ _ _ | exact Kd.Q_nil _ _ _ _ _ | exact Kd.S_nil _ _ _ _ _, by repeat (first | (with_reducible first | exact HB.out | apply below_alloc | apply pw_below_drewN | apply below_drew1 | refine below_set ?_ GE151.out) | exact HB.out)⟩

/-! ### spec_l11Gaps: function 108 -/
theorem spec_l11Gaps.mono_l : ∀ k, (∀ y0 y1 y2 y3 y4 y5 y6, LeO (spec_l11Gaps.l0 k y0 y1 y2 y3 y4 y5 y6) (spec_l11Gaps.l0 (k + 1) y0 y1 y2 y3 y4 y5 y6))
  | 0 => fun _ _ _ _ _ _ _ r h => by simp [spec_l11Gaps.l0] at h
  | k + 1 => by
    have ih0 := spec_l11Gaps.mono_l k
    · intro y0 y1 y2 y3 y4 y5 y6
      unfold spec_l11Gaps.l0
      repeat' first
      | (with_reducible exact ih0 _ _ _ _ _ _ _)
      | (with_reducible exact spec_GapsTop.mono _ _)
      | (with_reducible exact spec_l1Rd_pick.mono _ _ _ _)
      | (with_reducible exact LeO.refl _)
      | (with_reducible exact LeO.none _)
      | (with_reducible refine LeO.ite ?_ ?_)
      | (with_reducible refine LeO.bind ?_ (fun _ => ?_))
      | exact ih0 _ _ _ _ _ _ _
      | exact spec_GapsTop.mono _ _
      | exact spec_l1Rd_pick.mono _ _ _ _
      | exact LeO.none _
      | refine LeO.ite ?_ ?_
      | refine LeO.bind ?_ (fun _ => ?_)
theorem spec_l11Gaps.mono : ∀ a0 a1 a2 a3 k, LeO (spec_l11Gaps.f k a0 a1 a2 a3) (spec_l11Gaps.f (k + 1) a0 a1 a2 a3) := by
  intro a0 a1 a2 a3 k
  have ih0 := spec_l11Gaps.mono_l k
  unfold spec_l11Gaps.f
  repeat' first
      | (with_reducible exact ih0 _ _ _ _ _ _ _)
      | (with_reducible exact spec_GapsTop.mono _ _)
      | (with_reducible exact spec_l1Rd_pick.mono _ _ _ _)
      | (with_reducible exact LeO.refl _)
      | (with_reducible exact LeO.none _)
      | (with_reducible refine LeO.ite ?_ ?_)
      | (with_reducible refine LeO.bind ?_ (fun _ => ?_))
      | exact ih0 _ _ _ _ _ _ _
      | exact spec_GapsTop.mono _ _
      | exact spec_l1Rd_pick.mono _ _ _ _
      | exact LeO.none _
      | refine LeO.ite ?_ ?_
      | refine LeO.bind ?_ (fun _ => ?_)
set_option maxHeartbeats 8000000 in
set_option maxRecDepth 100000 in
theorem spec_l11Gaps.calls (k : Nat) (g : Nat) (s0_0 : List Int) (s0_1 : Int) (a1 : Int) (A2 : Option Addr) (c2 : Nat) (l2 : List Int) (r1 : Int) (r2 : List Int) (r3 : Int) (w0 w : World) (hI : IsS161 w0 w g s0_0 s0_1) (hB : Below w0.heap.size w0 w) (hr2 : Kd.C (Kd.int .i64) w A2 l2.length l2) (hc2 : l2.length ≤ c2) (hf2 : ∀ ad, A2 = some ad → 0 < l2.length → ad.block ≠ g) (h : spec_l11Gaps.f k s0_0 s0_1 a1 l2 = some (r1, r2, r3)) :
    Calls Try.prog 108 #[.pointer (some ⟨g, 0, none⟩), .int .i64 a1, .slice A2 l2.length c2] w fun e w' => ∃ v1_ : Value, e = .returned (.agg #[.int .i64 r1, v1_]) ∧ Kd.R (Kd.int .i64) 3 w' w.heap.size (fun _ => True) v1_ r2 ∧ IsS161 w0 w' g s0_0 r3 ∧ Below w0.heap.size w0 w' ∧ KeepBut w w' g none := by
  have hu41 := Try.underlying41
  have HR2 := Aside0.mk hr2
  have HC2 := Aside0.mk hc2
  clear hr2 hc2
  have HI0 := Aside0.mk hI
  have HK := Aside0.mk (KeepBut.refl w g none)
  have HL := Aside0.mk hB.size
  clear hI
  have HW0 := Aside0.mk hB.size
  have HB := Aside0.mk hB
  clear hB
  have H : ((spec_GapsTop.f k a1).bind fun bt161 => ((spec_l1Rd_pick.f k s0_0 s0_1 (wrap64 ((wrap64 (3 * a1)) + 3))).bind fun bt166 => (spec_l11Gaps.l0 k a1 l2 bt166.1 s0_0 bt166.2 bt161.1 bt161.2))) = some (r1, r2, r3) := h
  clear h
  replace H := Option.bind_eq_some_iff.mp H
  obtain ⟨⟨t161, t162⟩, A40, H⟩ := H
  replace H : ((spec_l1Rd_pick.f k s0_0 s0_1 (wrap64 ((wrap64 (3 * a1)) + 3))).bind fun bt166 => (spec_l11Gaps.l0 k a1 l2 bt166.1 s0_0 bt166.2 t161 t162)) = some (r1, r2, r3) := H
  have A4 := Aside0.mk A40
  clear A40
  replace H := Option.bind_eq_some_iff.mp H
  obtain ⟨⟨t166, t167⟩, A50, H⟩ := H
  replace H : (spec_l11Gaps.l0 k a1 l2 t166 s0_0 t167 t161 t162) = some (r1, r2, r3) := H
  have A5 := Aside0.mk A50
  clear A50
  have H' := Aside0.mk H
  clear H
  go_enter Try.func108, Try.ntmps108
  go_wp2_with (first | ((with_reducible refine gate_dst (N := 6) rfl ?_); refine sqx 6 #[.int .i64 0, .slice none 0 0] 41 ?_; intro gb160 hg w6 hbox hb; have n0_ := Aside0.mk (IsS161.below (by repeat (first | (with_reducible first | exact HI0.out | apply IsS161.alloc | apply IsS161.drewN | apply IsS161.drew | apply IsS161.set_1) | exact HI0.out)) hb); have n1_ := Aside0.mk (KeepBut.trans (by repeat (first | (with_reducible first | exact HK.out | apply KeepBut.set_ | apply keep_drewN | apply keep_drew | apply keep_alloc) | exact HK.out)) (KeepBut.of_below hb g none) (.inl rfl)); have n2_ := Aside0.mk (below_step (by repeat (first | (with_reducible first | exact HB.out | apply below_alloc | apply pw_below_drewN | apply below_drew1 | refine below_set ?_ (IsS161.ge HI0.out)) | exact HB.out)) hb); have n3_ := Aside0.mk (hbox); have n4_ := Aside0.mk ((by rw [hg]; exact (keep_size (w := w) (g := g) (row := none) (by repeat (first | (with_reducible first | exact HK.out | apply KeepBut.set_ | apply keep_drewN | apply keep_drew | apply keep_alloc) | exact HK.out))) : w.heap.size ≤ gb160)); have n5_ := Aside0.mk ((Nat.le_trans HW0.out (by rw [hg]; exact (keep_size (w := w) (g := g) (row := none) (by repeat (first | (with_reducible first | exact HK.out | apply KeepBut.set_ | apply keep_drewN | apply keep_drew | apply keep_alloc) | exact HK.out))) : w.heap.size ≤ gb160) : w0.heap.size ≤ gb160)); have n6_ := Aside0.mk ((by rw [hg]; exact Nat.ne_of_lt (IsS161.lt (show IsS161 w0 _ g s0_0 s0_1 from by repeat (first | (with_reducible first | exact HI0.out | apply IsS161.alloc | apply IsS161.drewN | apply IsS161.drew | apply IsS161.set_1) | exact HI0.out))) : g ≠ gb160)); have n7_ := Aside0.mk ((by rw [hg]; exact Nat.ne_of_gt (IsS161.lt (show IsS161 w0 _ g s0_0 s0_1 from by repeat (first | (with_reducible first | exact HI0.out | apply IsS161.alloc | apply IsS161.drewN | apply IsS161.drew | apply IsS161.set_1) | exact HI0.out))) : gb160 ≠ g)); clear HI0; clear HK; clear HB; have HI0 := n0_; have HK := n1_; have HB := n2_; have BK160 := n3_; have GW160 := n4_; have GE160 := n5_; have NB0_160 := n6_; have NB160_0 := n7_; clear n0_ n1_ n2_ n3_ n4_ n5_ n6_ n7_; clear hb hbox hg) | ((with_reducible refine gate_callee (f := 196) rfl ?_); refine sqL (some 13) Try.func196 #[.int .i64 a1] ?_; (with_reducible refine (spec_GapsTop.calls k a1 t161 t162 _ A4.out).mono ?_); rintro e w7 ⟨v163, rfl, ho0, hb⟩; refine ⟨_, rfl, ?_⟩; have n0_ := Aside0.mk (Kd.R_lower ho0 (keep_size (w := w) (g := g) (row := none) (by repeat (first | (with_reducible first | exact HK.out | apply KeepBut.set_ | apply keep_drewN | apply keep_drew | apply keep_alloc | refine keep_far ?_ GW160.out _) | exact HK.out)))); have n1_ := Aside0.mk (IsS161.below (by repeat (first | (with_reducible first | exact HI0.out | apply IsS161.alloc | apply IsS161.drewN | apply IsS161.drew | apply IsS161.set_1 | refine IsS161.far ?_ NB0_160.out _) | exact HI0.out)) hb); have n2_ := sqb BK160 hb; have n3_ := Aside0.mk (KeepBut.trans (by repeat (first | (with_reducible first | exact HK.out | apply KeepBut.set_ | apply keep_drewN | apply keep_drew | apply keep_alloc | refine keep_far ?_ GW160.out _) | exact HK.out)) (KeepBut.of_below hb g none) (.inl rfl)); have n4_ := Aside0.mk (below_step (by repeat (first | (with_reducible first | exact HB.out | apply below_alloc | apply pw_below_drewN | apply below_drew1 | refine below_set ?_ (IsS161.ge HI0.out) | refine below_set ?_ GE160.out) | exact HB.out)) hb); clear HI0; clear BK160; clear HK; clear HB; have HO164 := n0_; have HI0 := n1_; have BK160 := n2_; have HK := n3_; have HB := n4_; clear n0_ n1_ n2_ n3_ n4_; (try clear hb); (try clear hb2); (try clear hk); (try clear hi); (try clear ho0)) | ((with_reducible refine gate_dst (N := 7) rfl ?_); refine sqx 7 #[.int .i64 0, .slice none 0 0] 41 ?_; intro gb165 hg w8 hbox hb; have n0_ := Aside0.mk (Kd.R_below (by (with_reducible repeat (first | apply Kd.R_alloc | apply Kd.R_drewN | apply Kd.R_drew)); exact HO164.out) hb); have n1_ := Aside0.mk (IsS161.below (by repeat (first | (with_reducible first | exact HI0.out | apply IsS161.alloc | apply IsS161.drewN | apply IsS161.drew | apply IsS161.set_1 | refine IsS161.far ?_ NB0_160.out _) | exact HI0.out)) hb); have n2_ := sqb BK160 hb; have n3_ := Aside0.mk (KeepBut.trans (by repeat (first | (with_reducible first | exact HK.out | apply KeepBut.set_ | apply keep_drewN | apply keep_drew | apply keep_alloc | refine keep_far ?_ GW160.out _) | exact HK.out)) (KeepBut.of_below hb g none) (.inl rfl)); have n4_ := Aside0.mk (below_step (by repeat (first | (with_reducible first | exact HB.out | apply below_alloc | apply pw_below_drewN | apply below_drew1 | refine below_set ?_ (IsS161.ge HI0.out) | refine below_set ?_ GE160.out) | exact HB.out)) hb); have n5_ := Aside0.mk (hbox); have n6_ := Aside0.mk ((by rw [hg]; exact (keep_size (w := w) (g := g) (row := none) (by repeat (first | (with_reducible first | exact HK.out | apply KeepBut.set_ | apply keep_drewN | apply keep_drew | apply keep_alloc | refine keep_far ?_ GW160.out _) | exact HK.out))) : w.heap.size ≤ gb165)); have n7_ := Aside0.mk ((Nat.le_trans HW0.out (by rw [hg]; exact (keep_size (w := w) (g := g) (row := none) (by repeat (first | (with_reducible first | exact HK.out | apply KeepBut.set_ | apply keep_drewN | apply keep_drew | apply keep_alloc | refine keep_far ?_ GW160.out _) | exact HK.out))) : w.heap.size ≤ gb165) : w0.heap.size ≤ gb165)); have n8_ := sqn BK160 hg; have n9_ := sqm BK160 hg; have n10_ := Aside0.mk ((by rw [hg]; exact Nat.ne_of_lt (IsS161.lt (show IsS161 w0 _ g s0_0 s0_1 from by repeat (first | (with_reducible first | exact HI0.out | apply IsS161.alloc | apply IsS161.drewN | apply IsS161.drew | apply IsS161.set_1 | refine IsS161.far ?_ NB0_160.out _) | exact HI0.out))) : g ≠ gb165)); have n11_ := Aside0.mk ((by rw [hg]; exact Nat.ne_of_gt (IsS161.lt (show IsS161 w0 _ g s0_0 s0_1 from by repeat (first | (with_reducible first | exact HI0.out | apply IsS161.alloc | apply IsS161.drewN | apply IsS161.drew | apply IsS161.set_1 | refine IsS161.far ?_ NB0_160.out _) | exact HI0.out))) : gb165 ≠ g)); clear HO164; clear HI0; clear BK160; clear HK; clear HB; have HO164 := n0_; have HI0 := n1_; have BK160 := n2_; have HK := n3_; have HB := n4_; have BK165 := n5_; have GW165 := n6_; have GE165 := n7_; have NB160_165 := n8_; have NB165_160 := n9_; have NB0_165 := n10_; have NB165_0 := n11_; clear n0_ n1_ n2_ n3_ n4_ n5_ n6_ n7_ n8_ n9_ n10_ n11_; clear hb hbox hg; have hnb9 := NB165_160.out; have hnc9 := NB160_165.out; have hnb10 := NB165_0.out; have hnc10 := NB0_165.out; obtain ⟨hcz11_0, hcz11_1, hfz11_0, hfz11_1⟩ := sqc2 BK165; obtain ⟨Ao12, co12, eo12⟩ := Kd.R_slice HO164.out; subst eo12) | ((with_reducible refine gate_callee (f := 109) rfl ?_); refine sqL (some 18) Try.func109 #[.pointer (some ⟨g, 0, none⟩), .int .i64 (wrap64 ((wrap64 (3 * a1)) + 3))] ?_; (with_reducible refine (spec_l1Rd_pick.calls k g s0_0 s0_1 (wrap64 ((wrap64 (3 * a1)) + 3)) t166 t167 w0 _ ?side1 ?side2 A5.out).mono ?_); (case side1 => repeat (first | (with_reducible first | exact HI0.out | apply IsS161.alloc | apply IsS161.drewN | apply IsS161.drew | apply IsS161.set_1 | refine IsS161.far ?_ NB0_160.out _ | refine IsS161.far ?_ NB0_165.out _) | exact HI0.out)); (case side2 => repeat (first | (with_reducible first | exact HB.out | apply below_alloc | apply pw_below_drewN | apply below_drew1 | refine below_set ?_ (IsS161.ge HI0.out) | refine below_set ?_ GE160.out | refine below_set ?_ GE165.out) | exact HB.out)); rintro e w13 ⟨rfl, hi, hb, hk⟩; refine ⟨_, rfl, ?_⟩; have n0_ := Aside0.mk (KeepBut.blk hk (g' := gb160) (o := .cells #[.int .i64 0, .slice none 0 0] 41 (0, 0)) (by refine sqt ?_; refine blk_far ?_ NB160_165.out _; refine sqt ?_; refine blk_far ?_ NB160_165.out _; refine sqt ?_; exact BK160.out) NB160_0.out (by simp)); have n1_ := Aside0.mk (Kd.R_mono (Kd.R_keep (IsS161.apart (show IsS161 w0 _ g s0_0 s0_1 from by repeat (first | (with_reducible first | exact HI0.out | apply IsS161.alloc | apply IsS161.drewN | apply IsS161.drew | apply IsS161.set_1 | refine IsS161.far ?_ NB0_160.out _ | refine IsS161.far ?_ NB0_165.out _) | exact HI0.out)) (by (with_reducible repeat (first | apply Kd.R_alloc | apply Kd.R_drewN | apply Kd.R_drew)); exact (Kd.R_mono (Kd.R_far (p := ⟨gb165, 1, none⟩) (Kd.R_far (p := ⟨gb165, 0, none⟩) (Kd.R_types HO164.out BK165.out (by decide)) (fun _ hk => hk.2) (.int .i64 t161)) (fun _ hk => hk.2) (.slice Ao12 t162.length co12)) (fun _ h_ => h_.1))) (by decide)) hk (fun _ h => h.2)) (fun _ h => h.1)); have n2_ := Aside0.mk (KeepBut.blk hk (g' := gb165) (o := .cells #[.int .i64 t161, .slice Ao12 t162.length co12] 41 (0, 0)) (by refine sqt ?_; refine blk_put (cs := #[.int .i64 t161, .slice none 0 0]) ?_ 1 _ rfl; refine sqt ?_; refine blk_put (cs := #[.int .i64 0, .slice none 0 0]) ?_ 0 _ rfl; refine sqt ?_; exact BK165.out) NB165_0.out (by simp)); have n3_ := Aside0.mk (KeepBut.trans (by repeat (first | (with_reducible first | exact HK.out | apply KeepBut.set_ | apply keep_drewN | apply keep_drew | apply keep_alloc | refine keep_far ?_ GW160.out _ | refine keep_far ?_ GW165.out _) | exact HK.out)) hk (.inl rfl)); have n4_ := Aside0.mk (hb); have n5_ := Aside0.mk (hi); clear BK160; clear HO164; clear BK165; clear HK; clear HB; clear HI0; have BK160 := n0_; have HO164 := n1_; have BK165 := n2_; have HK := n3_; have HB := n4_; have HI0 := n5_; clear n0_ n1_ n2_ n3_ n4_ n5_; (try clear hb); (try clear hb2); (try clear hk); (try clear hi)))
  go_loopg [8] k (fun kq v8 w' => ∃ (x8_1 : Int) (x1001_1 : Int) (x166001_1 : List Int) (u166001 : Value), v8 = .int .i64 x8_1 ∧ Aside0 (spec_l11Gaps.l0 kq a1 l2 x8_1 s0_0 x1001_1 t161 x166001_1 = some (r1, r2, r3)) ∧ Aside0 (kq ≤ k) ∧ Aside0 (Kd.R (Kd.int .i64) 3 w' w.heap.size (fun _ => True) u166001 x166001_1) ∧ Aside0 (w'.heap[gb160]? = some (.cells #[.int .i64 0, (.slice none 0 0)] 41 (0, 0))) ∧ Aside0 (w'.heap[gb165]? = some (.cells #[.int .i64 t161, u166001] 41 (0, 0))) ∧ Aside0 (IsS161 w0 w' g s0_0 x1001_1) ∧ Aside0 (KeepBut w w' g none) ∧ Aside0 (Below w0.heap.size w0 w'))
  case atStart => exact ⟨(t166), (t167), (t162), (.slice Ao12 t162.length co12), (by first | rfl | (simp; done) | (simp [*]; done)), H', ⟨Nat.le_refl _⟩, ⟨by (with_reducible repeat (first | apply Kd.R_alloc | apply Kd.R_drewN | apply Kd.R_drew)); exact HO164.out⟩, sqk BK160, sqk BK165, ⟨by repeat (first | (with_reducible first | exact HI0.out | apply IsS161.alloc | apply IsS161.drewN | apply IsS161.drew | apply IsS161.set_1 | refine IsS161.far ?_ NB0_160.out _ | refine IsS161.far ?_ NB0_165.out _) | exact HI0.out)⟩, ⟨by repeat (first | (with_reducible first | exact HK.out | apply KeepBut.set_ | apply keep_drewN | apply keep_drew | apply keep_alloc | refine keep_far ?_ GW160.out _ | refine keep_far ?_ GW165.out _) | exact HK.out)⟩, ⟨by repeat (first | (with_reducible first | exact HB.out | apply below_alloc | apply pw_below_drewN | apply below_drew1 | refine below_set ?_ (IsS161.ge HI0.out) | refine below_set ?_ GE160.out | refine below_set ?_ GE165.out) | exact HB.out)⟩⟩
  case round =>
    clear H'
    try clear c1
    try clear c2
    try clear p2
    try clear p6
    try clear c9
    try clear c10
    try clear hcz11_0
    try clear hcz11_1
    try clear hfz11_0
    try clear hfz11_1
    obtain ⟨x8_1, x1001_1, x166001_1, u166001, rfl, HA, HK1, HO_166001, BK160, BK165, HI0, HK, HB⟩ := hrel
    cases gk with
    | zero => exact absurd HA.out (by simp [spec_l11Gaps.l0])
    | succ k1 =>
      have H := HA.out
      clear HA
      simp only [spec_l11Gaps.l0] at H
      by_cases c14 : x8_1 > 0
      · rw [if_pos c14] at H
        have c14b0 : decide (0 < x8_1) = true := decide_eq_true c14
        clear c14
        replace H := Option.bind_eq_some_iff.mp H
        obtain ⟨⟨t168, t169⟩, A150, H⟩ := H
        replace H : ((spec_l1Rd_pick.f k1 s0_0 t169 (wrap64 (a1 + 1))).bind fun bt170 => (if t168 = bt170.1 then (spec_l11Gaps.l0 k1 a1 l2 (wrap64 (x8_1 - 1)) s0_0 bt170.2 t161 x166001_1) else ((spec_l11Num.f l2 t168).bind fun t172 => ((spec_l11Num.f l2 bt170.1).bind fun t173 => ((spec_l1Rd_pick.f k1 s0_0 bt170.2 6).bind fun bt174 => ((spec_l1Rd_pick.f k1 s0_0 bt174.2 9).bind fun bt176 => (if bt176.1 = 0 then ((spec_l11Put.f t161 x166001_1 t168 bt170.1 (wrap64 ((wrap64 ((wrap64 (t172 - t173)) + bt174.1)) - 4))).bind fun t178 => (spec_l11Gaps.l0 k1 a1 l2 (wrap64 (x8_1 - 1)) s0_0 bt176.2 t161 t178)) else ((spec_l11Put.f t161 x166001_1 t168 bt170.1 (wrap64 ((wrap64 (t172 - t173)) + bt174.1))).bind fun t179 => (spec_l11Gaps.l0 k1 a1 l2 (wrap64 (x8_1 - 1)) s0_0 bt176.2 t161 t179))))))))) = some (r1, r2, r3) := H
        have A15 := Aside0.mk A150
        clear A150
        replace H := Option.bind_eq_some_iff.mp H
        obtain ⟨⟨t170, t171⟩, A160, H⟩ := H
        replace H : (if t168 = t170 then (spec_l11Gaps.l0 k1 a1 l2 (wrap64 (x8_1 - 1)) s0_0 t171 t161 x166001_1) else ((spec_l11Num.f l2 t168).bind fun t172 => ((spec_l11Num.f l2 t170).bind fun t173 => ((spec_l1Rd_pick.f k1 s0_0 t171 6).bind fun bt174 => ((spec_l1Rd_pick.f k1 s0_0 bt174.2 9).bind fun bt176 => (if bt176.1 = 0 then ((spec_l11Put.f t161 x166001_1 t168 t170 (wrap64 ((wrap64 ((wrap64 (t172 - t173)) + bt174.1)) - 4))).bind fun t178 => (spec_l11Gaps.l0 k1 a1 l2 (wrap64 (x8_1 - 1)) s0_0 bt176.2 t161 t178)) else ((spec_l11Put.f t161 x166001_1 t168 t170 (wrap64 ((wrap64 (t172 - t173)) + bt174.1))).bind fun t179 => (spec_l11Gaps.l0 k1 a1 l2 (wrap64 (x8_1 - 1)) s0_0 bt176.2 t161 t179)))))))) = some (r1, r2, r3) := H
        have A16 := Aside0.mk A160
        clear A160
        by_cases c17 : t168 = t170
        · rw [if_pos c17] at H
          have c17b0 : (t168 == t170) = true := beq_iff_eq.mpr c17
          have c17b1 : (t168 != t170) = false := bne_eq_false_iff_eq.mpr c17
          clear c17
          have H' := Aside0.mk H
          clear H
          go_wp2_with (first | ((with_reducible refine gate_callee (f := 109) rfl ?_); refine sqL (some 26) Try.func109 #[.pointer (some ⟨g, 0, none⟩), .int .i64 (wrap64 (a1 + 1))] ?_; (with_reducible refine (spec_l1Rd_pick.calls k1 g s0_0 x1001_1 (wrap64 (a1 + 1)) t168 t169 w0 _ ?side1 ?side2 A15.out).mono ?_); (case side1 => repeat (first | (with_reducible first | exact HI0.out | apply IsS161.alloc | apply IsS161.drewN | apply IsS161.drew | apply IsS161.set_1 | refine IsS161.far ?_ NB0_160.out _ | refine IsS161.far ?_ NB0_165.out _) | exact HI0.out)); (case side2 => repeat (first | (with_reducible first | exact HB.out | apply below_alloc | apply pw_below_drewN | apply below_drew1 | refine below_set ?_ (IsS161.ge HI0.out) | refine below_set ?_ GE160.out | refine below_set ?_ GE165.out) | exact HB.out)); rintro e w18 ⟨rfl, hi, hb, hk⟩; refine ⟨_, rfl, ?_⟩; have n0_ := Aside0.mk (Kd.R_mono (Kd.R_keep (IsS161.apart (show IsS161 w0 _ g s0_0 x1001_1 from by repeat (first | (with_reducible first | exact HI0.out | apply IsS161.alloc | apply IsS161.drewN | apply IsS161.drew | apply IsS161.set_1 | refine IsS161.far ?_ NB0_160.out _ | refine IsS161.far ?_ NB0_165.out _) | exact HI0.out)) (by (with_reducible repeat (first | apply Kd.R_alloc | apply Kd.R_drewN | apply Kd.R_drew)); exact HO_166001.out) (by decide)) hk (fun _ h => h.2)) (fun _ h => h.1)); have n1_ := Aside0.mk (KeepBut.blk hk (g' := gb160) (o := .cells #[.int .i64 0, .slice none 0 0] 41 (0, 0)) (by refine sqt ?_; exact BK160.out) NB160_0.out (by simp)); have n2_ := Aside0.mk (KeepBut.blk hk (g' := gb165) (o := .cells #[.int .i64 t161, u166001] 41 (0, 0)) (by refine sqt ?_; exact BK165.out) NB165_0.out (by simp)); have n3_ := Aside0.mk (KeepBut.trans (by repeat (first | (with_reducible first | exact HK.out | apply KeepBut.set_ | apply keep_drewN | apply keep_drew | apply keep_alloc | refine keep_far ?_ GW160.out _ | refine keep_far ?_ GW165.out _) | exact HK.out)) hk (.inl rfl)); have n4_ := Aside0.mk (hb); have n5_ := Aside0.mk (hi); clear HO_166001; clear BK160; clear BK165; clear HK; clear HB; clear HI0; have HO_166001 := n0_; have BK160 := n1_; have BK165 := n2_; have HK := n3_; have HB := n4_; have HI0 := n5_; clear n0_ n1_ n2_ n3_ n4_ n5_; (try clear hb); (try clear hb2); (try clear hk); (try clear hi)) | ((with_reducible refine gate_callee (f := 109) rfl ?_); refine sqL (some 30) Try.func109 #[.pointer (some ⟨g, 0, none⟩), .int .i64 (wrap64 (a1 + 1))] ?_; (with_reducible refine (spec_l1Rd_pick.calls k1 g s0_0 t169 (wrap64 (a1 + 1)) t170 t171 w0 _ ?side1 ?side2 A16.out).mono ?_); (case side1 => repeat (first | (with_reducible first | exact HI0.out | apply IsS161.alloc | apply IsS161.drewN | apply IsS161.drew | apply IsS161.set_1 | refine IsS161.far ?_ NB0_160.out _ | refine IsS161.far ?_ NB0_165.out _) | exact HI0.out)); (case side2 => repeat (first | (with_reducible first | exact HB.out | apply below_alloc | apply pw_below_drewN | apply below_drew1 | refine below_set ?_ (IsS161.ge HI0.out) | refine below_set ?_ GE160.out | refine below_set ?_ GE165.out) | exact HB.out)); rintro e w19 ⟨rfl, hi, hb, hk⟩; refine ⟨_, rfl, ?_⟩; have n0_ := Aside0.mk (Kd.R_mono (Kd.R_keep (IsS161.apart (show IsS161 w0 _ g s0_0 t169 from by repeat (first | (with_reducible first | exact HI0.out | apply IsS161.alloc | apply IsS161.drewN | apply IsS161.drew | apply IsS161.set_1 | refine IsS161.far ?_ NB0_160.out _ | refine IsS161.far ?_ NB0_165.out _) | exact HI0.out)) (by (with_reducible repeat (first | apply Kd.R_alloc | apply Kd.R_drewN | apply Kd.R_drew)); exact HO_166001.out) (by decide)) hk (fun _ h => h.2)) (fun _ h => h.1)); have n1_ := Aside0.mk (KeepBut.blk hk (g' := gb160) (o := .cells #[.int .i64 0, .slice none 0 0] 41 (0, 0)) (by refine sqt ?_; exact BK160.out) NB160_0.out (by simp)); have n2_ := Aside0.mk (KeepBut.blk hk (g' := gb165) (o := .cells #[.int .i64 t161, u166001] 41 (0, 0)) (by refine sqt ?_; exact BK165.out) NB165_0.out (by simp)); have n3_ := Aside0.mk (KeepBut.trans (by repeat (first | (with_reducible first | exact HK.out | apply KeepBut.set_ | apply keep_drewN | apply keep_drew | apply keep_alloc | refine keep_far ?_ GW160.out _ | refine keep_far ?_ GW165.out _) | exact HK.out)) hk (.inl rfl)); have n4_ := Aside0.mk (hb); have n5_ := Aside0.mk (hi); clear HO_166001; clear BK160; clear BK165; clear HK; clear HB; clear HI0; have HO_166001 := n0_; have BK160 := n1_; have BK165 := n2_; have HK := n3_; have HB := n4_; have HI0 := n5_; clear n0_ n1_ n2_ n3_ n4_ n5_; (try clear hb); (try clear hb2); (try clear hk); (try clear hi)))
          go_roundg k1
          case measure => have := HK1.out; omega
          case rel => exact ⟨(wrap64 (x8_1 - 1)), (t171), (x166001_1), (u166001), (by first | rfl | (simp; done) | (simp [*]; done)), H', ⟨by have := HK1.out; omega⟩, ⟨by (with_reducible repeat (first | apply Kd.R_alloc | apply Kd.R_drewN | apply Kd.R_drew)); exact HO_166001.out⟩, sqk BK160, sqk BK165, ⟨by repeat (first | (with_reducible first | exact HI0.out | apply IsS161.alloc | apply IsS161.drewN | apply IsS161.drew | apply IsS161.set_1 | refine IsS161.far ?_ NB0_160.out _ | refine IsS161.far ?_ NB0_165.out _) | exact HI0.out)⟩, ⟨by repeat (first | (with_reducible first | exact HK.out | apply KeepBut.set_ | apply keep_drewN | apply keep_drew | apply keep_alloc | refine keep_far ?_ GW160.out _ | refine keep_far ?_ GW165.out _) | exact HK.out)⟩, ⟨by repeat (first | (with_reducible first | exact HB.out | apply below_alloc | apply pw_below_drewN | apply below_drew1 | refine below_set ?_ (IsS161.ge HI0.out) | refine below_set ?_ GE160.out | refine below_set ?_ GE165.out) | exact HB.out)⟩⟩
        · rw [if_neg c17] at H
          have c17b0 : (t168 == t170) = false := beq_eq_false_iff_ne.mpr c17
          have c17b1 : (t168 != t170) = true := bne_iff_ne.mpr c17
          replace H := Option.bind_eq_some_iff.mp H
          obtain ⟨t172, A200, H⟩ := H
          replace H : ((spec_l11Num.f l2 t170).bind fun t173 => ((spec_l1Rd_pick.f k1 s0_0 t171 6).bind fun bt174 => ((spec_l1Rd_pick.f k1 s0_0 bt174.2 9).bind fun bt176 => (if bt176.1 = 0 then ((spec_l11Put.f t161 x166001_1 t168 t170 (wrap64 ((wrap64 ((wrap64 (t172 - t173)) + bt174.1)) - 4))).bind fun t178 => (spec_l11Gaps.l0 k1 a1 l2 (wrap64 (x8_1 - 1)) s0_0 bt176.2 t161 t178)) else ((spec_l11Put.f t161 x166001_1 t168 t170 (wrap64 ((wrap64 (t172 - t173)) + bt174.1))).bind fun t179 => (spec_l11Gaps.l0 k1 a1 l2 (wrap64 (x8_1 - 1)) s0_0 bt176.2 t161 t179)))))) = some (r1, r2, r3) := H
          have A20 := Aside0.mk A200
          clear A200
          replace H := Option.bind_eq_some_iff.mp H
          obtain ⟨t173, A210, H⟩ := H
          replace H : ((spec_l1Rd_pick.f k1 s0_0 t171 6).bind fun bt174 => ((spec_l1Rd_pick.f k1 s0_0 bt174.2 9).bind fun bt176 => (if bt176.1 = 0 then ((spec_l11Put.f t161 x166001_1 t168 t170 (wrap64 ((wrap64 ((wrap64 (t172 - t173)) + bt174.1)) - 4))).bind fun t178 => (spec_l11Gaps.l0 k1 a1 l2 (wrap64 (x8_1 - 1)) s0_0 bt176.2 t161 t178)) else ((spec_l11Put.f t161 x166001_1 t168 t170 (wrap64 ((wrap64 (t172 - t173)) + bt174.1))).bind fun t179 => (spec_l11Gaps.l0 k1 a1 l2 (wrap64 (x8_1 - 1)) s0_0 bt176.2 t161 t179))))) = some (r1, r2, r3) := H
          have A21 := Aside0.mk A210
          clear A210
          replace H := Option.bind_eq_some_iff.mp H
          obtain ⟨⟨t174, t175⟩, A220, H⟩ := H
          replace H : ((spec_l1Rd_pick.f k1 s0_0 t175 9).bind fun bt176 => (if bt176.1 = 0 then ((spec_l11Put.f t161 x166001_1 t168 t170 (wrap64 ((wrap64 ((wrap64 (t172 - t173)) + t174)) - 4))).bind fun t178 => (spec_l11Gaps.l0 k1 a1 l2 (wrap64 (x8_1 - 1)) s0_0 bt176.2 t161 t178)) else ((spec_l11Put.f t161 x166001_1 t168 t170 (wrap64 ((wrap64 (t172 - t173)) + t174))).bind fun t179 => (spec_l11Gaps.l0 k1 a1 l2 (wrap64 (x8_1 - 1)) s0_0 bt176.2 t161 t179)))) = some (r1, r2, r3) := H
          have A22 := Aside0.mk A220
          clear A220
          replace H := Option.bind_eq_some_iff.mp H
          obtain ⟨⟨t176, t177⟩, A230, H⟩ := H
          replace H : (if t176 = 0 then ((spec_l11Put.f t161 x166001_1 t168 t170 (wrap64 ((wrap64 ((wrap64 (t172 - t173)) + t174)) - 4))).bind fun t178 => (spec_l11Gaps.l0 k1 a1 l2 (wrap64 (x8_1 - 1)) s0_0 t177 t161 t178)) else ((spec_l11Put.f t161 x166001_1 t168 t170 (wrap64 ((wrap64 (t172 - t173)) + t174))).bind fun t179 => (spec_l11Gaps.l0 k1 a1 l2 (wrap64 (x8_1 - 1)) s0_0 t177 t161 t179))) = some (r1, r2, r3) := H
          have A23 := Aside0.mk A230
          clear A230
          by_cases c24 : t176 = 0
          · rw [if_pos c24] at H
            have c24b0 : (t176 == 0) = true := beq_iff_eq.mpr c24
            have c24b1 : (t176 != 0) = false := bne_eq_false_iff_eq.mpr c24
            clear c24
            replace H := Option.bind_eq_some_iff.mp H
            obtain ⟨t178, A250, H⟩ := H
            replace H : (spec_l11Gaps.l0 k1 a1 l2 (wrap64 (x8_1 - 1)) s0_0 t177 t161 t178) = some (r1, r2, r3) := H
            have A25 := Aside0.mk A250
            clear A250
            have H' := Aside0.mk H
            clear H
            go_wp2_with (first | ((with_reducible refine gate_callee (f := 109) rfl ?_); refine sqL (some 26) Try.func109 #[.pointer (some ⟨g, 0, none⟩), .int .i64 (wrap64 (a1 + 1))] ?_; (with_reducible refine (spec_l1Rd_pick.calls k1 g s0_0 x1001_1 (wrap64 (a1 + 1)) t168 t169 w0 _ ?side1 ?side2 A15.out).mono ?_); (case side1 => repeat (first | (with_reducible first | exact HI0.out | apply IsS161.alloc | apply IsS161.drewN | apply IsS161.drew | apply IsS161.set_1 | refine IsS161.far ?_ NB0_160.out _ | refine IsS161.far ?_ NB0_165.out _) | exact HI0.out)); (case side2 => repeat (first | (with_reducible first | exact HB.out | apply below_alloc | apply pw_below_drewN | apply below_drew1 | refine below_set ?_ (IsS161.ge HI0.out) | refine below_set ?_ GE160.out | refine below_set ?_ GE165.out) | exact HB.out)); rintro e w26 ⟨rfl, hi, hb, hk⟩; refine ⟨_, rfl, ?_⟩; have n0_ := Aside0.mk (Kd.R_mono (Kd.R_keep (IsS161.apart (show IsS161 w0 _ g s0_0 x1001_1 from by repeat (first | (with_reducible first | exact HI0.out | apply IsS161.alloc | apply IsS161.drewN | apply IsS161.drew | apply IsS161.set_1 | refine IsS161.far ?_ NB0_160.out _ | refine IsS161.far ?_ NB0_165.out _) | exact HI0.out)) (by (with_reducible repeat (first | apply Kd.R_alloc | apply Kd.R_drewN | apply Kd.R_drew)); exact HO_166001.out) (by decide)) hk (fun _ h => h.2)) (fun _ h => h.1)); have n1_ := Aside0.mk (KeepBut.blk hk (g' := gb160) (o := .cells #[.int .i64 0, .slice none 0 0] 41 (0, 0)) (by refine sqt ?_; exact BK160.out) NB160_0.out (by simp)); have n2_ := Aside0.mk (KeepBut.blk hk (g' := gb165) (o := .cells #[.int .i64 t161, u166001] 41 (0, 0)) (by refine sqt ?_; exact BK165.out) NB165_0.out (by simp)); have n3_ := Aside0.mk (KeepBut.trans (by repeat (first | (with_reducible first | exact HK.out | apply KeepBut.set_ | apply keep_drewN | apply keep_drew | apply keep_alloc | refine keep_far ?_ GW160.out _ | refine keep_far ?_ GW165.out _) | exact HK.out)) hk (.inl rfl)); have n4_ := Aside0.mk (hb); have n5_ := Aside0.mk (hi); clear HO_166001; clear BK160; clear BK165; clear HK; clear HB; clear HI0; have HO_166001 := n0_; have BK160 := n1_; have BK165 := n2_; have HK := n3_; have HB := n4_; have HI0 := n5_; clear n0_ n1_ n2_ n3_ n4_ n5_; (try clear hb); (try clear hb2); (try clear hk); (try clear hi)) | ((with_reducible refine gate_callee (f := 109) rfl ?_); refine sqL (some 30) Try.func109 #[.pointer (some ⟨g, 0, none⟩), .int .i64 (wrap64 (a1 + 1))] ?_; (with_reducible refine (spec_l1Rd_pick.calls k1 g s0_0 t169 (wrap64 (a1 + 1)) t170 t171 w0 _ ?side1 ?side2 A16.out).mono ?_); (case side1 => repeat (first | (with_reducible first | exact HI0.out | apply IsS161.alloc | apply IsS161.drewN | apply IsS161.drew | apply IsS161.set_1 | refine IsS161.far ?_ NB0_160.out _ | refine IsS161.far ?_ NB0_165.out _) | exact HI0.out)); (case side2 => repeat (first | (with_reducible first | exact HB.out | apply below_alloc | apply pw_below_drewN | apply below_drew1 | refine below_set ?_ (IsS161.ge HI0.out) | refine below_set ?_ GE160.out | refine below_set ?_ GE165.out) | exact HB.out)); rintro e w27 ⟨rfl, hi, hb, hk⟩; refine ⟨_, rfl, ?_⟩; have n0_ := Aside0.mk (Kd.R_mono (Kd.R_keep (IsS161.apart (show IsS161 w0 _ g s0_0 t169 from by repeat (first | (with_reducible first | exact HI0.out | apply IsS161.alloc | apply IsS161.drewN | apply IsS161.drew | apply IsS161.set_1 | refine IsS161.far ?_ NB0_160.out _ | refine IsS161.far ?_ NB0_165.out _) | exact HI0.out)) (by (with_reducible repeat (first | apply Kd.R_alloc | apply Kd.R_drewN | apply Kd.R_drew)); exact HO_166001.out) (by decide)) hk (fun _ h => h.2)) (fun _ h => h.1)); have n1_ := Aside0.mk (KeepBut.blk hk (g' := gb160) (o := .cells #[.int .i64 0, .slice none 0 0] 41 (0, 0)) (by refine sqt ?_; exact BK160.out) NB160_0.out (by simp)); have n2_ := Aside0.mk (KeepBut.blk hk (g' := gb165) (o := .cells #[.int .i64 t161, u166001] 41 (0, 0)) (by refine sqt ?_; exact BK165.out) NB165_0.out (by simp)); have n3_ := Aside0.mk (KeepBut.trans (by repeat (first | (with_reducible first | exact HK.out | apply KeepBut.set_ | apply keep_drewN | apply keep_drew | apply keep_alloc | refine keep_far ?_ GW160.out _ | refine keep_far ?_ GW165.out _) | exact HK.out)) hk (.inl rfl)); have n4_ := Aside0.mk (hb); have n5_ := Aside0.mk (hi); clear HO_166001; clear BK160; clear BK165; clear HK; clear HB; clear HI0; have HO_166001 := n0_; have BK160 := n1_; have BK165 := n2_; have HK := n3_; have HB := n4_; have HI0 := n5_; clear n0_ n1_ n2_ n3_ n4_ n5_; (try clear hb); (try clear hb2); (try clear hk); (try clear hi)) | ((with_reducible refine gate_callee (f := 119) rfl ?_); refine sqL (some 36) Try.func119 #[.slice A2 l2.length c2, .int .i64 t168] ?_; (with_reducible refine (spec_l11Num.calls _ _ l2 t168 t172 _ ?side1 ?side2 A20.out).mono ?_); (case side1 => exact Kd.C_keep 0 HR2.out (by repeat (first | (with_reducible first | exact HK.out | apply KeepBut.set_ | apply keep_drewN | apply keep_drew | apply keep_alloc | refine keep_far ?_ GW160.out _ | refine keep_far ?_ GW165.out _) | exact HK.out)) hf2); (case side2 => exact HC2.out); rintro e w' ⟨rfl, ⟨nd, rfl⟩⟩; refine ⟨_, rfl, ?_⟩) | ((with_reducible refine gate_callee (f := 119) rfl ?_); refine sqL (some 39) Try.func119 #[.slice A2 l2.length c2, .int .i64 t170] ?_; (with_reducible refine (spec_l11Num.calls _ _ l2 t170 t173 _ ?side1 ?side2 A21.out).mono ?_); (case side1 => exact Kd.C_keep 0 HR2.out (by repeat (first | (with_reducible first | exact HK.out | apply KeepBut.set_ | apply keep_drewN | apply keep_drew | apply keep_alloc | refine keep_far ?_ GW160.out _ | refine keep_far ?_ GW165.out _) | exact HK.out)) hf2); (case side2 => exact HC2.out); rintro e w' ⟨rfl, ⟨nd, rfl⟩⟩; refine ⟨_, rfl, ?_⟩) | ((with_reducible refine gate_callee (f := 109) rfl ?_); refine sqL (some 42) Try.func109 #[.pointer (some ⟨g, 0, none⟩), .int .i64 6] ?_; (with_reducible refine (spec_l1Rd_pick.calls k1 g s0_0 t171 6 t174 t175 w0 _ ?side1 ?side2 A22.out).mono ?_); (case side1 => repeat (first | (with_reducible first | exact HI0.out | apply IsS161.alloc | apply IsS161.drewN | apply IsS161.drew | apply IsS161.set_1 | refine IsS161.far ?_ NB0_160.out _ | refine IsS161.far ?_ NB0_165.out _) | exact HI0.out)); (case side2 => repeat (first | (with_reducible first | exact HB.out | apply below_alloc | apply pw_below_drewN | apply below_drew1 | refine below_set ?_ (IsS161.ge HI0.out) | refine below_set ?_ GE160.out | refine below_set ?_ GE165.out) | exact HB.out)); rintro e w28 ⟨rfl, hi, hb, hk⟩; refine ⟨_, rfl, ?_⟩; have n0_ := Aside0.mk (Kd.R_mono (Kd.R_keep (IsS161.apart (show IsS161 w0 _ g s0_0 t171 from by repeat (first | (with_reducible first | exact HI0.out | apply IsS161.alloc | apply IsS161.drewN | apply IsS161.drew | apply IsS161.set_1 | refine IsS161.far ?_ NB0_160.out _ | refine IsS161.far ?_ NB0_165.out _) | exact HI0.out)) (by (with_reducible repeat (first | apply Kd.R_alloc | apply Kd.R_drewN | apply Kd.R_drew)); exact HO_166001.out) (by decide)) hk (fun _ h => h.2)) (fun _ h => h.1)); have n1_ := Aside0.mk (KeepBut.blk hk (g' := gb160) (o := .cells #[.int .i64 0, .slice none 0 0] 41 (0, 0)) (by refine sqt ?_; exact BK160.out) NB160_0.out (by simp)); have n2_ := Aside0.mk (KeepBut.blk hk (g' := gb165) (o := .cells #[.int .i64 t161, u166001] 41 (0, 0)) (by refine sqt ?_; exact BK165.out) NB165_0.out (by simp)); have n3_ := Aside0.mk (KeepBut.trans (by repeat (first | (with_reducible first | exact HK.out | apply KeepBut.set_ | apply keep_drewN | apply keep_drew | apply keep_alloc | refine keep_far ?_ GW160.out _ | refine keep_far ?_ GW165.out _) | exact HK.out)) hk (.inl rfl)); have n4_ := Aside0.mk (hb); have n5_ := Aside0.mk (hi); clear HO_166001; clear BK160; clear BK165; clear HK; clear HB; clear HI0; have HO_166001 := n0_; have BK160 := n1_; have BK165 := n2_; have HK := n3_; have HB := n4_; have HI0 := n5_; clear n0_ n1_ n2_ n3_ n4_ n5_; (try clear hb); (try clear hb2); (try clear hk); (try clear hi)) | ((with_reducible refine gate_callee (f := 109) rfl ?_); refine sqL (some 45) Try.func109 #[.pointer (some ⟨g, 0, none⟩), .int .i64 9] ?_; (with_reducible refine (spec_l1Rd_pick.calls k1 g s0_0 t175 9 t176 t177 w0 _ ?side1 ?side2 A23.out).mono ?_); (case side1 => repeat (first | (with_reducible first | exact HI0.out | apply IsS161.alloc | apply IsS161.drewN | apply IsS161.drew | apply IsS161.set_1 | refine IsS161.far ?_ NB0_160.out _ | refine IsS161.far ?_ NB0_165.out _) | exact HI0.out)); (case side2 => repeat (first | (with_reducible first | exact HB.out | apply below_alloc | apply pw_below_drewN | apply below_drew1 | refine below_set ?_ (IsS161.ge HI0.out) | refine below_set ?_ GE160.out | refine below_set ?_ GE165.out) | exact HB.out)); rintro e w29 ⟨rfl, hi, hb, hk⟩; refine ⟨_, rfl, ?_⟩; have n0_ := Aside0.mk (Kd.R_mono (Kd.R_keep (IsS161.apart (show IsS161 w0 _ g s0_0 t175 from by repeat (first | (with_reducible first | exact HI0.out | apply IsS161.alloc | apply IsS161.drewN | apply IsS161.drew | apply IsS161.set_1 | refine IsS161.far ?_ NB0_160.out _ | refine IsS161.far ?_ NB0_165.out _) | exact HI0.out)) (by (with_reducible repeat (first | apply Kd.R_alloc | apply Kd.R_drewN | apply Kd.R_drew)); exact HO_166001.out) (by decide)) hk (fun _ h => h.2)) (fun _ h => h.1)); have n1_ := Aside0.mk (KeepBut.blk hk (g' := gb160) (o := .cells #[.int .i64 0, .slice none 0 0] 41 (0, 0)) (by refine sqt ?_; exact BK160.out) NB160_0.out (by simp)); have n2_ := Aside0.mk (KeepBut.blk hk (g' := gb165) (o := .cells #[.int .i64 t161, u166001] 41 (0, 0)) (by refine sqt ?_; exact BK165.out) NB165_0.out (by simp)); have n3_ := Aside0.mk (KeepBut.trans (by repeat (first | (with_reducible first | exact HK.out | apply KeepBut.set_ | apply keep_drewN | apply keep_drew | apply keep_alloc | refine keep_far ?_ GW160.out _ | refine keep_far ?_ GW165.out _) | exact HK.out)) hk (.inl rfl)); have n4_ := Aside0.mk (hb); have n5_ := Aside0.mk (hi); clear HO_166001; clear BK160; clear BK165; clear HK; clear HB; clear HI0; have HO_166001 := n0_; have BK160 := n1_; have BK165 := n2_; have HK := n3_; have HB := n4_; have HI0 := n5_; clear n0_ n1_ n2_ n3_ n4_ n5_; (try clear hb); (try clear hb2); (try clear hk); (try clear hi); have hnb30 := NB165_160.out; have hnc30 := NB160_165.out; have hnb31 := NB165_0.out; have hnc31 := NB0_165.out; obtain ⟨hcz32_0, hcz32_1, hfz32_0, hfz32_1⟩ := sqc2 BK165; obtain ⟨Ao33, co33, eo33⟩ := Kd.R_slice HO_166001.out; subst eo33) | ((with_reducible refine gate_callee (f := 116) rfl ?_); refine sqL (some 53) Try.func116 #[.agg #[.int .i64 t161, .slice Ao33 x166001_1.length co33], .int .i64 t168, .int .i64 t170, .int .i64 (wrap64 ((wrap64 ((wrap64 (t172 - t173)) + t174)) - 4))] ?_; (with_reducible refine (spec_l11Put.calls t161 (fun k_ => some k_ = (.slice Ao33 x166001_1.length co33 : Value).ownBlock) (.slice Ao33 x166001_1.length co33) x166001_1 t168 t170 (wrap64 ((wrap64 ((wrap64 (t172 - t173)) + t174)) - 4)) t178 w0 _ ?side1 ?side2 A25.out).mono ?_); (case side1 => repeat (first | (with_reducible first | exact HB.out | apply below_alloc | apply pw_below_drewN | apply below_drew1 | refine below_set ?_ (IsS161.ge HI0.out) | refine below_set ?_ GE160.out | refine below_set ?_ GE165.out) | exact HB.out)); (case side2 => exact Kd.R_lower (Kd.R_tight rfl HO_166001.out) HL.out); rintro e w34 ⟨rfl, hy0, hb, hkp⟩; refine ⟨_, rfl, ?_⟩; have n0_ := Aside0.mk (Kd.R_reok rfl (Kd.R_raise (d := (Kd.int .i64)) (b := w0.heap.size) (b' := w.heap.size) (fun _ _ _ _ h_ => h_) hy0 (fun k_ e_ => Or.elim (hy0.1 k_ e_) (fun hs_ => (fun e_ => Kd.R_base HO_166001.out k_ e_.symm) hs_) (fun hn_ => Nat.le_trans (keep_size (w := w) (g := g) (row := none) (by repeat (first | (with_reducible first | exact HK.out | apply KeepBut.set_ | apply keep_drewN | apply keep_drew | apply keep_alloc | refine keep_far ?_ GW160.out _ | refine keep_far ?_ GW165.out _) | exact HK.out))) hn_))) (fun k_ e_ => HO_166001.out.1 k_ e_)); have n1_ := Aside0.mk (blk_kept (by refine sqt ?_; exact BK160.out) hkp (fun hs_ => (fun e_ => (Kd.R_ne HO_166001.out BK160.out (by decide)) e_) hs_)); have n2_ := Aside0.mk (blk_kept (by refine sqt ?_; exact BK165.out) hkp (fun hs_ => (fun e_ => (Kd.R_ne HO_166001.out BK165.out (by decide)) e_) hs_)); have n3_ := Aside0.mk (IsS161.kept (by repeat (first | (with_reducible first | exact HI0.out | apply IsS161.alloc | apply IsS161.drewN | apply IsS161.drew | apply IsS161.set_1 | refine IsS161.far ?_ NB0_160.out _ | refine IsS161.far ?_ NB0_165.out _) | exact HI0.out)) hkp (fun hs_ => (fun e_ => (IsS161.own_ne HI0.out HO_166001.out (by decide)) e_) hs_)); have n4_ := Aside0.mk (Kept.keepG (by repeat (first | (with_reducible first | exact HK.out | apply KeepBut.set_ | apply keep_drewN | apply keep_drew | apply keep_alloc | refine keep_far ?_ GW160.out _ | refine keep_far ?_ GW165.out _) | exact HK.out)) hkp (fun k_ hs_ => (fun e_ => .inr (Kd.R_base HO_166001.out k_ e_.symm)) hs_)); have n5_ := Aside0.mk (hb); clear HO_166001; clear BK160; clear BK165; clear HI0; clear HK; clear HB; have HO_166001 := n0_; have BK160 := n1_; have BK165 := n2_; have HI0 := n3_; have HK := n4_; have HB := n5_; clear n0_ n1_ n2_ n3_ n4_ n5_; (try clear hb); (try clear hkp); (try clear hy0)))
            go_roundg k1
            case measure => have := HK1.out; omega
            case rel => exact ⟨(wrap64 (x8_1 - 1)), (t177), (t178), (.slice Ao33 x166001_1.length co33), (by first | rfl | (simp; done) | (simp [*]; done)), H', ⟨by have := HK1.out; omega⟩, ⟨by (with_reducible repeat (first | apply Kd.R_alloc | apply Kd.R_drewN | apply Kd.R_drew)); exact HO_166001.out⟩, sqk BK160, sqk BK165, ⟨by repeat (first | (with_reducible first | exact HI0.out | apply IsS161.alloc | apply IsS161.drewN | apply IsS161.drew | apply IsS161.set_1 | refine IsS161.far ?_ NB0_160.out _ | refine IsS161.far ?_ NB0_165.out _) | exact HI0.out)⟩, ⟨by repeat (first | (with_reducible first | exact HK.out | apply KeepBut.set_ | apply keep_drewN | apply keep_drew | apply keep_alloc | refine keep_far ?_ GW160.out _ | refine keep_far ?_ GW165.out _) | exact HK.out)⟩, ⟨by repeat (first | (with_reducible first | exact HB.out | apply below_alloc | apply pw_below_drewN | apply below_drew1 | refine below_set ?_ (IsS161.ge HI0.out) | refine below_set ?_ GE160.out | refine below_set ?_ GE165.out) | exact HB.out)⟩⟩
          · rw [if_neg c24] at H
            have c24b0 : (t176 == 0) = false := beq_eq_false_iff_ne.mpr c24
            have c24b1 : (t176 != 0) = true := bne_iff_ne.mpr c24
            replace H := Option.bind_eq_some_iff.mp H
            obtain ⟨t179, A350, H⟩ := H
            replace H : (spec_l11Gaps.l0 k1 a1 l2 (wrap64 (x8_1 - 1)) s0_0 t177 t161 t179) = some (r1, r2, r3) := H
            have A35 := Aside0.mk A350
            clear A350
            have H' := Aside0.mk H
            clear H
            go_wp2_with (first | ((with_reducible refine gate_callee (f := 109) rfl ?_); refine sqL (some 26) Try.func109 #[.pointer (some ⟨g, 0, none⟩), .int .i64 (wrap64 (a1 + 1))] ?_; (with_reducible refine (spec_l1Rd_pick.calls k1 g s0_0 x1001_1 (wrap64 (a1 + 1)) t168 t169 w0 _ ?side1 ?side2 A15.out).mono ?_); (case side1 => repeat (first | (with_reducible first | exact HI0.out | apply IsS161.alloc | apply IsS161.drewN | apply IsS161.drew | apply IsS161.set_1 | refine IsS161.far ?_ NB0_160.out _ | refine IsS161.far ?_ NB0_165.out _) | exact HI0.out)); (case side2 => repeat (first | (with_reducible first | exact HB.out | apply below_alloc | apply pw_below_drewN | apply below_drew1 | refine below_set ?_ (IsS161.ge HI0.out) | refine below_set ?_ GE160.out | refine below_set ?_ GE165.out) | exact HB.out)); rintro e w36 ⟨rfl, hi, hb, hk⟩; refine ⟨_, rfl, ?_⟩; have n0_ := Aside0.mk (Kd.R_mono (Kd.R_keep (IsS161.apart (show IsS161 w0 _ g s0_0 x1001_1 from by repeat (first | (with_reducible first | exact HI0.out | apply IsS161.alloc | apply IsS161.drewN | apply IsS161.drew | apply IsS161.set_1 | refine IsS161.far ?_ NB0_160.out _ | refine IsS161.far ?_ NB0_165.out _) | exact HI0.out)) (by (with_reducible repeat (first | apply Kd.R_alloc | apply Kd.R_drewN | apply Kd.R_drew)); exact HO_166001.out) (by decide)) hk (fun _ h => h.2)) (fun _ h => h.1)); have n1_ := Aside0.mk (KeepBut.blk hk (g' := gb160) (o := .cells #[.int .i64 0, .slice none 0 0] 41 (0, 0)) (by refine sqt ?_; exact BK160.out) NB160_0.out (by simp)); have n2_ := Aside0.mk (KeepBut.blk hk (g' := gb165) (o := .cells #[.int .i64 t161, u166001] 41 (0, 0)) (by refine sqt ?_; exact BK165.out) NB165_0.out (by simp)); have n3_ := Aside0.mk (KeepBut.trans (by repeat (first | (with_reducible first | exact HK.out | apply KeepBut.set_ | apply keep_drewN | apply keep_drew | apply keep_alloc | refine keep_far ?_ GW160.out _ | refine keep_far ?_ GW165.out _) | exact HK.out)) hk (.inl rfl)); have n4_ := Aside0.mk (hb); have n5_ := Aside0.mk (hi); clear HO_166001; clear BK160; clear BK165; clear HK; clear HB; clear HI0; have HO_166001 := n0_; have BK160 := n1_; have BK165 := n2_; have HK := n3_; have HB := n4_; have HI0 := n5_; clear n0_ n1_ n2_ n3_ n4_ n5_; (try clear hb); (try clear hb2); (try clear hk); (try clear hi)) | ((with_reducible refine gate_callee (f := 109) rfl ?_); refine sqL (some 30) Try.func109 #[.pointer (some ⟨g, 0, none⟩), .int .i64 (wrap64 (a1 + 1))] ?_; (with_reducible refine (spec_l1Rd_pick.calls k1 g s0_0 t169 (wrap64 (a1 + 1)) t170 t171 w0 _ ?side1 ?side2 A16.out).mono ?_); (case side1 => repeat (first | (with_reducible first | exact HI0.out | apply IsS161.alloc | apply IsS161.drewN | apply IsS161.drew | apply IsS161.set_1 | refine IsS161.far ?_ NB0_160.out _ | refine IsS161.far ?_ NB0_165.out _) | exact HI0.out)); (case side2 => repeat (first | (with_reducible first | exact HB.out | apply below_alloc | apply pw_below_drewN | apply below_drew1 | refine below_set ?_ (IsS161.ge HI0.out) | refine below_set ?_ GE160.out | refine below_set ?_ GE165.out) | exact HB.out)); rintro e w37 ⟨rfl, hi, hb, hk⟩; refine ⟨_, rfl, ?_⟩; have n0_ := Aside0.mk (Kd.R_mono (Kd.R_keep (IsS161.apart (show IsS161 w0 _ g s0_0 t169 from by repeat (first | (with_reducible first | exact HI0.out | apply IsS161.alloc | apply IsS161.drewN | apply IsS161.drew | apply IsS161.set_1 | refine IsS161.far ?_ NB0_160.out _ | refine IsS161.far ?_ NB0_165.out _) | exact HI0.out)) (by (with_reducible repeat (first | apply Kd.R_alloc | apply Kd.R_drewN | apply Kd.R_drew)); exact HO_166001.out) (by decide)) hk (fun _ h => h.2)) (fun _ h => h.1)); have n1_ := Aside0.mk (KeepBut.blk hk (g' := gb160) (o := .cells #[.int .i64 0, .slice none 0 0] 41 (0, 0)) (by refine sqt ?_; exact BK160.out) NB160_0.out (by simp)); have n2_ := Aside0.mk (KeepBut.blk hk (g' := gb165) (o := .cells #[.int .i64 t161, u166001] 41 (0, 0)) (by refine sqt ?_; exact BK165.out) NB165_0.out (by simp)); have n3_ := Aside0.mk (KeepBut.trans (by repeat (first | (with_reducible first | exact HK.out | apply KeepBut.set_ | apply keep_drewN | apply keep_drew | apply keep_alloc | refine keep_far ?_ GW160.out _ | refine keep_far ?_ GW165.out _) | exact HK.out)) hk (.inl rfl)); have n4_ := Aside0.mk (hb); have n5_ := Aside0.mk (hi); clear HO_166001; clear BK160; clear BK165; clear HK; clear HB; clear HI0; have HO_166001 := n0_; have BK160 := n1_; have BK165 := n2_; have HK := n3_; have HB := n4_; have HI0 := n5_; clear n0_ n1_ n2_ n3_ n4_ n5_; (try clear hb); (try clear hb2); (try clear hk); (try clear hi)) | ((with_reducible refine gate_callee (f := 119) rfl ?_); refine sqL (some 36) Try.func119 #[.slice A2 l2.length c2, .int .i64 t168] ?_; (with_reducible refine (spec_l11Num.calls _ _ l2 t168 t172 _ ?side1 ?side2 A20.out).mono ?_); (case side1 => exact Kd.C_keep 0 HR2.out (by repeat (first | (with_reducible first | exact HK.out | apply KeepBut.set_ | apply keep_drewN | apply keep_drew | apply keep_alloc | refine keep_far ?_ GW160.out _ | refine keep_far ?_ GW165.out _) | exact HK.out)) hf2); (case side2 => exact HC2.out); rintro e w' ⟨rfl, ⟨nd, rfl⟩⟩; refine ⟨_, rfl, ?_⟩) | ((with_reducible refine gate_callee (f := 119) rfl ?_); refine sqL (some 39) Try.func119 #[.slice A2 l2.length c2, .int .i64 t170] ?_; (with_reducible refine (spec_l11Num.calls _ _ l2 t170 t173 _ ?side1 ?side2 A21.out).mono ?_); (case side1 => exact Kd.C_keep 0 HR2.out (by repeat (first | (with_reducible first | exact HK.out | apply KeepBut.set_ | apply keep_drewN | apply keep_drew | apply keep_alloc | refine keep_far ?_ GW160.out _ | refine keep_far ?_ GW165.out _) | exact HK.out)) hf2); (case side2 => exact HC2.out); rintro e w' ⟨rfl, ⟨nd, rfl⟩⟩; refine ⟨_, rfl, ?_⟩) | ((with_reducible refine gate_callee (f := 109) rfl ?_); refine sqL (some 42) Try.func109 #[.pointer (some ⟨g, 0, none⟩), .int .i64 6] ?_; (with_reducible refine (spec_l1Rd_pick.calls k1 g s0_0 t171 6 t174 t175 w0 _ ?side1 ?side2 A22.out).mono ?_); (case side1 => repeat (first | (with_reducible first | exact HI0.out | apply IsS161.alloc | apply IsS161.drewN | apply IsS161.drew | apply IsS161.set_1 | refine IsS161.far ?_ NB0_160.out _ | refine IsS161.far ?_ NB0_165.out _) | exact HI0.out)); (case side2 => repeat (first | (with_reducible first | exact HB.out | apply below_alloc | apply pw_below_drewN | apply below_drew1 | refine below_set ?_ (IsS161.ge HI0.out) | refine below_set ?_ GE160.out | refine below_set ?_ GE165.out) | exact HB.out)); rintro e w38 ⟨rfl, hi, hb, hk⟩; refine ⟨_, rfl, ?_⟩; have n0_ := Aside0.mk (Kd.R_mono (Kd.R_keep (IsS161.apart (show IsS161 w0 _ g s0_0 t171 from by repeat (first | (with_reducible first | exact HI0.out | apply IsS161.alloc | apply IsS161.drewN | apply IsS161.drew | apply IsS161.set_1 | refine IsS161.far ?_ NB0_160.out _ | refine IsS161.far ?_ NB0_165.out _) | exact HI0.out)) (by (with_reducible repeat (first | apply Kd.R_alloc | apply Kd.R_drewN | apply Kd.R_drew)); exact HO_166001.out) (by decide)) hk (fun _ h => h.2)) (fun _ h => h.1)); have n1_ := Aside0.mk (KeepBut.blk hk (g' := gb160) (o := .cells #[.int .i64 0, .slice none 0 0] 41 (0, 0)) (by refine sqt ?_; exact BK160.out) NB160_0.out (by simp)); have n2_ := Aside0.mk (KeepBut.blk hk (g' := gb165) (o := .cells #[.int .i64 t161, u166001] 41 (0, 0)) (by refine sqt ?_; exact BK165.out) NB165_0.out (by simp)); have n3_ := Aside0.mk (KeepBut.trans (by repeat (first | (with_reducible first | exact HK.out | apply KeepBut.set_ | apply keep_drewN | apply keep_drew | apply keep_alloc | refine keep_far ?_ GW160.out _ | refine keep_far ?_ GW165.out _) | exact HK.out)) hk (.inl rfl)); have n4_ := Aside0.mk (hb); have n5_ := Aside0.mk (hi); clear HO_166001; clear BK160; clear BK165; clear HK; clear HB; clear HI0; have HO_166001 := n0_; have BK160 := n1_; have BK165 := n2_; have HK := n3_; have HB := n4_; have HI0 := n5_; clear n0_ n1_ n2_ n3_ n4_ n5_; (try clear hb); (try clear hb2); (try clear hk); (try clear hi)) | ((with_reducible refine gate_callee (f := 109) rfl ?_); refine sqL (some 45) Try.func109 #[.pointer (some ⟨g, 0, none⟩), .int .i64 9] ?_; (with_reducible refine (spec_l1Rd_pick.calls k1 g s0_0 t175 9 t176 t177 w0 _ ?side1 ?side2 A23.out).mono ?_); (case side1 => repeat (first | (with_reducible first | exact HI0.out | apply IsS161.alloc | apply IsS161.drewN | apply IsS161.drew | apply IsS161.set_1 | refine IsS161.far ?_ NB0_160.out _ | refine IsS161.far ?_ NB0_165.out _) | exact HI0.out)); (case side2 => repeat (first | (with_reducible first | exact HB.out | apply below_alloc | apply pw_below_drewN | apply below_drew1 | refine below_set ?_ (IsS161.ge HI0.out) | refine below_set ?_ GE160.out | refine below_set ?_ GE165.out) | exact HB.out)); rintro e w39 ⟨rfl, hi, hb, hk⟩; refine ⟨_, rfl, ?_⟩; have n0_ := Aside0.mk (Kd.R_mono (Kd.R_keep (IsS161.apart (show IsS161 w0 _ g s0_0 t175 from by repeat (first | (with_reducible first | exact HI0.out | apply IsS161.alloc | apply IsS161.drewN | apply IsS161.drew | apply IsS161.set_1 | refine IsS161.far ?_ NB0_160.out _ | refine IsS161.far ?_ NB0_165.out _) | exact HI0.out)) (by (with_reducible repeat (first | apply Kd.R_alloc | apply Kd.R_drewN | apply Kd.R_drew)); exact HO_166001.out) (by decide)) hk (fun _ h => h.2)) (fun _ h => h.1)); have n1_ := Aside0.mk (KeepBut.blk hk (g' := gb160) (o := .cells #[.int .i64 0, .slice none 0 0] 41 (0, 0)) (by refine sqt ?_; exact BK160.out) NB160_0.out (by simp)); have n2_ := Aside0.mk (KeepBut.blk hk (g' := gb165) (o := .cells #[.int .i64 t161, u166001] 41 (0, 0)) (by refine sqt ?_; exact BK165.out) NB165_0.out (by simp)); have n3_ := Aside0.mk (KeepBut.trans (by repeat (first | (with_reducible first | exact HK.out | apply KeepBut.set_ | apply keep_drewN | apply keep_drew | apply keep_alloc | refine keep_far ?_ GW160.out _ | refine keep_far ?_ GW165.out _) | exact HK.out)) hk (.inl rfl)); have n4_ := Aside0.mk (hb); have n5_ := Aside0.mk (hi); clear HO_166001; clear BK160; clear BK165; clear HK; clear HB; clear HI0; have HO_166001 := n0_; have BK160 := n1_; have BK165 := n2_; have HK := n3_; have HB := n4_; have HI0 := n5_; clear n0_ n1_ n2_ n3_ n4_ n5_; (try clear hb); (try clear hb2); (try clear hk); (try clear hi); have hnb40 := NB165_160.out; have hnc40 := NB160_165.out; have hnb41 := NB165_0.out; have hnc41 := NB0_165.out; obtain ⟨hcz42_0, hcz42_1, hfz42_0, hfz42_1⟩ := sqc2 BK165; obtain ⟨Ao43, co43, eo43⟩ := Kd.R_slice HO_166001.out; subst eo43) | ((with_reducible refine gate_callee (f := 116) rfl ?_); refine sqL (some 53) Try.func116 #[.agg #[.int .i64 t161, .slice Ao43 x166001_1.length co43], .int .i64 t168, .int .i64 t170, .int .i64 (wrap64 ((wrap64 (t172 - t173)) + t174))] ?_; (with_reducible refine (spec_l11Put.calls t161 (fun k_ => some k_ = (.slice Ao43 x166001_1.length co43 : Value).ownBlock) (.slice Ao43 x166001_1.length co43) x166001_1 t168 t170 (wrap64 ((wrap64 (t172 - t173)) + t174)) t179 w0 _ ?side1 ?side2 A35.out).mono ?_); (case side1 => repeat (first | (with_reducible first | exact HB.out | apply below_alloc | apply pw_below_drewN | apply below_drew1 | refine below_set ?_ (IsS161.ge HI0.out) | refine below_set ?_ GE160.out | refine below_set ?_ GE165.out) | exact HB.out)); (case side2 => exact Kd.R_lower (Kd.R_tight rfl HO_166001.out) HL.out); rintro e w44 ⟨rfl, hy0, hb, hkp⟩; refine ⟨_, rfl, ?_⟩; have n0_ := Aside0.mk (Kd.R_reok rfl (Kd.R_raise (d := (Kd.int .i64)) (b := w0.heap.size) (b' := w.heap.size) (fun _ _ _ _ h_ => h_) hy0 (fun k_ e_ => Or.elim (hy0.1 k_ e_) (fun hs_ => (fun e_ => Kd.R_base HO_166001.out k_ e_.symm) hs_) (fun hn_ => Nat.le_trans (keep_size (w := w) (g := g) (row := none) (by repeat (first | (with_reducible first | exact HK.out | apply KeepBut.set_ | apply keep_drewN | apply keep_drew | apply keep_alloc | refine keep_far ?_ GW160.out _ | refine keep_far ?_ GW165.out _) | exact HK.out))) hn_))) (fun k_ e_ => HO_166001.out.1 k_ e_)); have n1_ := Aside0.mk (blk_kept (by refine sqt ?_; exact BK160.out) hkp (fun hs_ => (fun e_ => (Kd.R_ne HO_166001.out BK160.out (by decide)) e_) hs_)); have n2_ := Aside0.mk (blk_kept (by refine sqt ?_; exact BK165.out) hkp (fun hs_ => (fun e_ => (Kd.R_ne HO_166001.out BK165.out (by decide)) e_) hs_)); have n3_ := Aside0.mk (IsS161.kept (by repeat (first | (with_reducible first | exact HI0.out | apply IsS161.alloc | apply IsS161.drewN | apply IsS161.drew | apply IsS161.set_1 | refine IsS161.far ?_ NB0_160.out _ | refine IsS161.far ?_ NB0_165.out _) | exact HI0.out)) hkp (fun hs_ => (fun e_ => (IsS161.own_ne HI0.out HO_166001.out (by decide)) e_) hs_)); have n4_ := Aside0.mk (Kept.keepG (by repeat (first | (with_reducible first | exact HK.out | apply KeepBut.set_ | apply keep_drewN | apply keep_drew | apply keep_alloc | refine keep_far ?_ GW160.out _ | refine keep_far ?_ GW165.out _) | exact HK.out)) hkp (fun k_ hs_ => (fun e_ => .inr (Kd.R_base HO_166001.out k_ e_.symm)) hs_)); have n5_ := Aside0.mk (hb); clear HO_166001; clear BK160; clear BK165; clear HI0; clear HK; clear HB; have HO_166001 := n0_; have BK160 := n1_; have BK165 := n2_; have HI0 := n3_; have HK := n4_; have HB := n5_; clear n0_ n1_ n2_ n3_ n4_ n5_; (try clear hb); (try clear hkp); (try clear hy0)))
            go_roundg k1
            case measure => have := HK1.out; omega
            case rel => exact ⟨(wrap64 (x8_1 - 1)), (t177), (t179), (.slice Ao43 x166001_1.length co43), (by first | rfl | (simp; done) | (simp [*]; done)), H', ⟨by have := HK1.out; omega⟩, ⟨by (with_reducible repeat (first | apply Kd.R_alloc | apply Kd.R_drewN | apply Kd.R_drew)); exact HO_166001.out⟩, sqk BK160, sqk BK165, ⟨by repeat (first | (with_reducible first | exact HI0.out | apply IsS161.alloc | apply IsS161.drewN | apply IsS161.drew | apply IsS161.set_1 | refine IsS161.far ?_ NB0_160.out _ | refine IsS161.far ?_ NB0_165.out _) | exact HI0.out)⟩, ⟨by repeat (first | (with_reducible first | exact HK.out | apply KeepBut.set_ | apply keep_drewN | apply keep_drew | apply keep_alloc | refine keep_far ?_ GW160.out _ | refine keep_far ?_ GW165.out _) | exact HK.out)⟩, ⟨by repeat (first | (with_reducible first | exact HB.out | apply below_alloc | apply pw_below_drewN | apply below_drew1 | refine below_set ?_ (IsS161.ge HI0.out) | refine below_set ?_ GE160.out | refine below_set ?_ GE165.out) | exact HB.out)⟩⟩
      · rw [if_neg c14] at H
        have c14b0 : decide (0 < x8_1) = false := decide_eq_false c14
        clear c14
        simp only [Option.some.injEq, Prod.mk.injEq] at H
        obtain ⟨rfl, rfl, rfl⟩ := H
        have hnb45 := NB165_160.out
        have hnc45 := NB160_165.out
        have hnb46 := NB165_0.out
        have hnc46 := NB0_165.out
        obtain ⟨hcz47_0, hcz47_1, hfz47_0, hfz47_1⟩ := sqc2 BK165
        have hnb48 := NB160_0.out
        have hnc48 := NB0_160.out
        obtain ⟨hcz49_0, hcz49_1, hfz49_0, hfz49_1⟩ := sqc2 BK160
        obtain ⟨Ao50, co50, eo50⟩ := Kd.R_slice HO_166001.out
        subst eo50
        go_wp2
        refine bodyPost_ret (results_cell_row rfl _ _ gb160 41 #[.int .i64 t161, .slice Ao50 x166001_1.length co50] (0, 0) _ rfl (by refine sqt ?_; refine blk_put (cs := #[.int .i64 t161, .slice none 0 0]) ?_ 1 _ rfl; refine sqt ?_; refine blk_put (cs := #[.int .i64 0, .slice none 0 0]) ?_ 0 _ rfl; refine sqt ?_; exact BK160.out) Try.underlying41 rfl (by kernel_rfl)) rfl ?_
        exact ⟨_, by first | rfl | (simp [errW_none, errW_some] <;> rfl) | (simp [*, errW_none, errW_some] <;> rfl), by (with_reducible repeat (first | apply Kd.R_alloc | apply Kd.R_drewN | apply Kd.R_drew)); exact Kd.R_mono (Kd.R_far (p := ⟨gb160, 1, none⟩) (Kd.R_far (p := ⟨gb160, 0, none⟩) (Kd.R_types HO_166001.out BK160.out (by decide)) (fun _ hk => hk.2) (.int .i64 t161)) (fun _ hk => hk.2) (.slice Ao50 x166001_1.length co50)) (fun _ hk => trivial), by repeat (first | (with_reducible first | exact HI0.out | apply IsS161.alloc | apply IsS161.drewN | apply IsS161.drew | apply IsS161.set_1 | refine IsS161.far ?_ NB0_160.out _ | refine IsS161.far ?_ NB0_165.out _) | exact HI0.out), by repeat (first | (with_reducible first | exact HB.out | apply below_alloc | apply pw_below_drewN | apply below_drew1 | refine below_set ?_ (IsS161.ge HI0.out) | refine below_set ?_ GE160.out | refine below_set ?_ GE165.out) | exact HB.out), by repeat (first | (with_reducible first | exact HK.out | apply KeepBut.set_ | apply keep_drewN | apply keep_drew | apply keep_alloc | refine keep_far ?_ GW160.out _ | refine keep_far ?_ GW165.out _) | exact HK.out)⟩

end Go.Proofs.Ytkekcenlleebeaa.PFnGapsJoin
