/- Functions of the program as plain Lean functions, and that calls of them come to what these tell. Conditions: those in each law. -/
import Derived.Test.YtmdcgkkkfncieaaSq
import Derived.Test.YtmdcgkkkfncieaaDFnRangeLattice
import Derived.Test.YtmdcgkkkfncieaaQFnRangeLatticex0
import Derived.Test.YtmdcgkkkfncieaaQFnRangeLatticex2
import Derived.Test.YtmdcgkkkfncieaaQFnRangeLatticex4
import Derived.Test.YtmdcgkkkfncieaaQFnRangeLatticex6
namespace Go.Proofs.Ytmdcgkkkfncieaa.PFnRangeLattice
open Go.RowKit Go.Proofs.Ytmdcgkkkfncieaa.Sq Go.Proofs.YtmdcgkkkfncieaaW.PrintWords Go.Proofs.YtmdcgkkkfncieaaW.PrintLast Go.Proofs.YtmdcgkkkfncieaaW.PrintMore
attribute [local go_sem] max2_int min2_int max_two min_two max_three min_three max_four min_four   -- for this text's walks alone
set_option linter.unusedVariables false
set_option linter.unusedSimpArgs false

/-! ### spec_l8Steps: function 97 -/
theorem spec_l8Steps.mono_l : ∀ k, (∀ y0 y1 y2 y3, LeO (spec_l8Steps.l0 k y0 y1 y2 y3) (spec_l8Steps.l0 (k + 1) y0 y1 y2 y3))
  | 0 => fun _ _ _ _ r h => by simp [spec_l8Steps.l0] at h
  | k + 1 => by
    have ih0 := spec_l8Steps.mono_l k
    · intro y0 y1 y2 y3
      unfold spec_l8Steps.l0
      repeat' first
      | (with_reducible exact ih0 _ _ _ _)
      | (with_reducible exact spec_l1Rd_pick.mono _ _ _ _)
      | (with_reducible exact spec_l1Rd_wild.mono _ _ _)
      | (with_reducible exact LeO.refl _)
      | (with_reducible exact LeO.none _)
      | (with_reducible refine LeO.ite ?_ ?_)
      | (with_reducible refine LeO.bind ?_ (fun _ => ?_))
      | exact ih0 _ _ _ _
      | exact spec_l1Rd_pick.mono _ _ _ _
      | exact spec_l1Rd_wild.mono _ _ _
      | exact LeO.none _
      | refine LeO.ite ?_ ?_
      | refine LeO.bind ?_ (fun _ => ?_)
theorem spec_l8Steps.mono : ∀ a0 a1 k, LeO (spec_l8Steps.f k a0 a1) (spec_l8Steps.f (k + 1) a0 a1) := by
  intro a0 a1 k
  have ih0 := spec_l8Steps.mono_l k
  unfold spec_l8Steps.f
  repeat' first
      | (with_reducible exact ih0 _ _ _ _)
      | (with_reducible exact spec_l1Rd_pick.mono _ _ _ _)
      | (with_reducible exact spec_l1Rd_wild.mono _ _ _)
      | (with_reducible exact LeO.refl _)
      | (with_reducible exact LeO.none _)
      | (with_reducible refine LeO.ite ?_ ?_)
      | (with_reducible refine LeO.bind ?_ (fun _ => ?_))
      | exact ih0 _ _ _ _
      | exact spec_l1Rd_pick.mono _ _ _ _
      | exact spec_l1Rd_wild.mono _ _ _
      | exact LeO.none _
      | refine LeO.ite ?_ ?_
      | refine LeO.bind ?_ (fun _ => ?_)
set_option maxHeartbeats 8000000 in
set_option maxRecDepth 100000 in
theorem spec_l8Steps.calls (k : Nat) (g : Nat) (s0_0 : List Int) (s0_1 : Int) (r1 : List Int) (r2 : Int) (w0 w : World) (hI : IsS98 w0 w g s0_0 s0_1) (hB : Below w0.heap.size w0 w) (h : spec_l8Steps.f k s0_0 s0_1 = some (r1, r2)) :
    Calls Try.prog 97 #[.pointer (some ⟨g, 0, none⟩)] w fun e w' => ∃ v0_ : Value, e = .returned (v0_) ∧ Kd.R (Kd.int .i64) 3 w' w.heap.size (fun _ => True) v0_ r1 ∧ IsS98 w0 w' g s0_0 r2 ∧ Below w0.heap.size w0 w' ∧ KeepBut w w' g none := by
  have HI0 := Aside0.mk hI
  have HK := Aside0.mk (KeepBut.refl w g none)
  have HL := Aside0.mk hB.size
  clear hI
  have HW0 := Aside0.mk hB.size
  have HB := Aside0.mk hB
  clear hB
  have H : ((spec_l1Rd_pick.f k s0_0 s0_1 6).bind fun bt204 => (spec_l8Steps.l0 k (([] : List Int)) bt204.1 s0_0 bt204.2)) = some (r1, r2) := h
  clear h
  obtain ⟨y201, hy201⟩ : ∃ y_ : List Int, y_ = (([] : List Int)) := ⟨_, rfl⟩
  replace H : ((spec_l1Rd_pick.f k s0_0 s0_1 6).bind fun bt204 => (spec_l8Steps.l0 k y201 bt204.1 s0_0 bt204.2)) = some (r1, r2) := by first | (rw [hy201]; with_reducible exact H) | (have H2_ := (Option.bind_some _ _).symm.trans H; rw [hy201]; with_reducible exact H2_) | (have H2_ := (Option.bind_some _ _).symm.trans H; with_reducible exact H2_) | with_reducible exact H | (rw [hy201]; exact H) | exact H
  have Ny201 := Aside0.mk hy201
  clear hy201
  replace H := Option.bind_eq_some_iff.mp H
  obtain ⟨⟨t204, t205⟩, A20, H⟩ := H
  replace H : (spec_l8Steps.l0 k y201 t204 s0_0 t205) = some (r1, r2) := H
  have A2 := Aside0.mk A20
  clear A20
  have H' := Aside0.mk H
  clear H
  go_enter Try.func97, Try.ntmps97
  go_wp2_with (first | ((with_reducible refine gate_dst (N := 5) rfl ?_); refine Kd.R_lit (Kd.int .i64) _ 3 ?hg (N := 5) ?hd (xs := ([] : List Int)) (inner := []) (ok := fun _ => True) (okp := fun _ => True) ?hr ?hp (fun _ hk => hk) trivial (Below.refl _ _) (Nat.le_refl _) (by simp) ?_; (case hd => rfl); (case hg => rfl); (case hr => first | (go_simp; done) | (go_simp; rfl)); (case hp => exact (Reps.none _ _)); intro v202 w3 ho4 hb hg_ hnew_; clear hg_ hnew_; (first | rw [← Ny201.out] at ho4 | (simp only [Int.reduceToNat] at ho4; rw [← Ny201.out] at ho4)); have n0_ := Aside0.mk (Kd.R_lower ho4 (keep_size (w := w) (g := g) (row := none) (by repeat (first | (with_reducible first | exact HK.out | apply KeepBut.set_ | apply keep_drewN | apply keep_drew | apply keep_alloc) | exact HK.out)))); have n1_ := Aside0.mk (IsS98.below (by repeat (first | (with_reducible first | exact HI0.out | apply IsS98.alloc | apply IsS98.drewN | apply IsS98.drew | apply IsS98.set_1) | exact HI0.out)) hb); have n2_ := Aside0.mk (KeepBut.trans (by repeat (first | (with_reducible first | exact HK.out | apply KeepBut.set_ | apply keep_drewN | apply keep_drew | apply keep_alloc) | exact HK.out)) (KeepBut.of_below hb g none) (.inl rfl)); have n3_ := Aside0.mk (below_step (by repeat (first | (with_reducible first | exact HB.out | apply below_alloc | apply pw_below_drewN | apply below_drew1 | refine below_set ?_ (IsS98.ge HI0.out)) | exact HB.out)) hb); clear HI0; clear HK; clear HB; have HO203 := n0_; have HI0 := n1_; have HK := n2_; have HB := n3_; clear n0_ n1_ n2_ n3_; clear hb ho4) | ((with_reducible refine gate_callee (f := 88) rfl ?_); refine sqL (some 7) Try.func88 #[.pointer (some ⟨g, 0, none⟩), .int .i64 6] ?_; (with_reducible refine (spec_l1Rd_pick.calls k g s0_0 s0_1 6 t204 t205 w0 _ ?side1 ?side2 A2.out).mono ?_); (case side1 => repeat (first | (with_reducible first | exact HI0.out | apply IsS98.alloc | apply IsS98.drewN | apply IsS98.drew | apply IsS98.set_1) | exact HI0.out)); (case side2 => repeat (first | (with_reducible first | exact HB.out | apply below_alloc | apply pw_below_drewN | apply below_drew1 | refine below_set ?_ (IsS98.ge HI0.out)) | exact HB.out)); rintro e w5 ⟨rfl, hi, hb, hk⟩; refine ⟨_, rfl, ?_⟩; have n0_ := Aside0.mk (Kd.R_mono (Kd.R_keep (IsS98.apart (show IsS98 w0 _ g s0_0 s0_1 from by repeat (first | (with_reducible first | exact HI0.out | apply IsS98.alloc | apply IsS98.drewN | apply IsS98.drew | apply IsS98.set_1) | exact HI0.out)) (by (with_reducible repeat (first | apply Kd.R_alloc | apply Kd.R_drewN | apply Kd.R_drew)); exact HO203.out) (by decide)) hk (fun _ h => h.2)) (fun _ h => h.1)); have n1_ := Aside0.mk (KeepBut.trans (by repeat (first | (with_reducible first | exact HK.out | apply KeepBut.set_ | apply keep_drewN | apply keep_drew | apply keep_alloc) | exact HK.out)) hk (.inl rfl)); have n2_ := Aside0.mk (hb); have n3_ := Aside0.mk (hi); clear HO203; clear HK; clear HB; clear HI0; have HO203 := n0_; have HK := n1_; have HB := n2_; have HI0 := n3_; clear n0_ n1_ n2_ n3_; (try clear hb); (try clear hb2); (try clear hk); (try clear hi)))
  go_loopg [3, 4] k (fun kq v3 v4 w' => ∃ (x3_1 : List Int) (x4_1 : Int) (x1001_1 : Int), v4 = .int .i64 x4_1 ∧ Aside0 (spec_l8Steps.l0 kq x3_1 x4_1 s0_0 x1001_1 = some (r1, r2)) ∧ Aside0 (kq ≤ k) ∧ Aside0 (Kd.R (Kd.int .i64) 3 w' w.heap.size (fun _ => True) v3 x3_1) ∧ Aside0 (IsS98 w0 w' g s0_0 x1001_1) ∧ Aside0 (KeepBut w w' g none) ∧ Aside0 (Below w0.heap.size w0 w'))
  case atStart => exact ⟨(y201), (t204), (t205), (by first | rfl | (simp; done) | (simp [*]; done)), H', ⟨Nat.le_refl _⟩, ⟨by (with_reducible repeat (first | apply Kd.R_alloc | apply Kd.R_drewN | apply Kd.R_drew)); exact HO203.out⟩, ⟨by repeat (first | (with_reducible first | exact HI0.out | apply IsS98.alloc | apply IsS98.drewN | apply IsS98.drew | apply IsS98.set_1) | exact HI0.out)⟩, ⟨by repeat (first | (with_reducible first | exact HK.out | apply KeepBut.set_ | apply keep_drewN | apply keep_drew | apply keep_alloc) | exact HK.out)⟩, ⟨by repeat (first | (with_reducible first | exact HB.out | apply below_alloc | apply pw_below_drewN | apply below_drew1 | refine below_set ?_ (IsS98.ge HI0.out)) | exact HB.out)⟩⟩
  case round =>
    clear H'
    try clear p2
    obtain ⟨x3_1, x4_1, x1001_1, rfl, HA, HK1, HO_3, HI0, HK, HB⟩ := hrel
    cases gk with
    | zero => exact absurd HA.out (by simp [spec_l8Steps.l0])
    | succ k1 =>
      have H := HA.out
      clear HA
      simp only [spec_l8Steps.l0] at H
      by_cases c6 : x4_1 > 0
      · rw [if_pos c6] at H
        have c6b0 : decide (0 < x4_1) = true := decide_eq_true c6
        clear c6
        replace H := Option.bind_eq_some_iff.mp H
        obtain ⟨⟨t206, t207⟩, A70, H⟩ := H
        replace H : (if x3_1.length < 17592186044416 then (spec_l8Steps.l0 k1 (x3_1 ++ [t206]) (wrap64 (x4_1 - 1)) s0_0 t207) else (none)) = some (r1, r2) := H
        have A7 := Aside0.mk A70
        clear A70
        by_cases c8 : x3_1.length < 17592186044416
        · rw [if_pos c8] at H
          have LMc8 := Aside0.mk c8
          clear c8
          obtain ⟨y208, hy208⟩ : ∃ y_ : List Int, y_ = (x3_1 ++ [t206]) := ⟨_, rfl⟩
          replace H : (spec_l8Steps.l0 k1 y208 (wrap64 (x4_1 - 1)) s0_0 t207) = some (r1, r2) := by first | (rw [hy208]; with_reducible exact H) | (have H2_ := (Option.bind_some _ _).symm.trans H; rw [hy208]; with_reducible exact H2_) | (have H2_ := (Option.bind_some _ _).symm.trans H; with_reducible exact H2_) | with_reducible exact H | (rw [hy208]; exact H) | exact H
          have Ny208 := Aside0.mk hy208
          clear hy208
          have H' := Aside0.mk H
          clear H
          go_wp2_with (first | ((with_reducible refine gate_callee (f := 90) rfl ?_); refine sqL (some 14) Try.func90 #[.pointer (some ⟨g, 0, none⟩)] ?_; (with_reducible refine (spec_l1Rd_wild.calls k1 g s0_0 x1001_1 t206 t207 w0 _ ?side1 ?side2 A7.out).mono ?_); (case side1 => repeat (first | (with_reducible first | exact HI0.out | apply IsS98.alloc | apply IsS98.drewN | apply IsS98.drew | apply IsS98.set_1) | exact HI0.out)); (case side2 => repeat (first | (with_reducible first | exact HB.out | apply below_alloc | apply pw_below_drewN | apply below_drew1 | refine below_set ?_ (IsS98.ge HI0.out)) | exact HB.out)); rintro e w9 ⟨rfl, hi, hb, hk⟩; refine ⟨_, rfl, ?_⟩; have n0_ := Aside0.mk (Kd.R_mono (Kd.R_keep (IsS98.apart (show IsS98 w0 _ g s0_0 x1001_1 from by repeat (first | (with_reducible first | exact HI0.out | apply IsS98.alloc | apply IsS98.drewN | apply IsS98.drew | apply IsS98.set_1) | exact HI0.out)) (by (with_reducible repeat (first | apply Kd.R_alloc | apply Kd.R_drewN | apply Kd.R_drew)); exact HO_3.out) (by decide)) hk (fun _ h => h.2)) (fun _ h => h.1)); have n1_ := Aside0.mk (KeepBut.trans (by repeat (first | (with_reducible first | exact HK.out | apply KeepBut.set_ | apply keep_drewN | apply keep_drew | apply keep_alloc) | exact HK.out)) hk (.inl rfl)); have n2_ := Aside0.mk (hb); have n3_ := Aside0.mk (hi); clear HO_3; clear HK; clear HB; clear HI0; have HO_3 := n0_; have HK := n1_; have HB := n2_; have HI0 := n3_; clear n0_ n1_ n2_ n3_; (try clear hb); (try clear hb2); (try clear hk); (try clear hi)) | ((with_reducible refine gate_builtin (b := .append) (xs := #[.tmp 12, .tmp 15]) rfl ?_); at_builtin; refine Kd.R_append (Kd.int .i64) w.heap.size rfl (.tmp 12) (.tmp 15) 22 3 (.int .i64 0) 8 rfl Try.underlying22 info3 rfl (by decide) (by omega) u3 x3_1 t206 [.int .i64 t206] (fun _ => True) (fun _ => False) rfl rfl ?aP (fun _ hk => hk.elim) ?aF ?aO (Below.refl _ _) ?aS ?aL ?_; (case aP => exact rfl); (case aF => exact (fun _ _ => trivial)); (case aO => exact (by (with_reducible repeat (first | apply Kd.R_alloc | apply Kd.R_drewN | apply Kd.R_drew)); exact HO_3.out)); (case aS => exact (keep_size (w := w) (g := g) (row := none) (by repeat (first | (with_reducible first | exact HK.out | apply KeepBut.set_ | apply keep_drewN | apply keep_drew | apply keep_alloc) | exact HK.out)))); (case aL => have := LMc8.out; omega); intro v209 w10 ho hb hg hat; rw [← Ny208.out] at ho; have n0_ := Aside0.mk (IsS98.grown (by repeat (first | (with_reducible first | exact HI0.out | apply IsS98.alloc | apply IsS98.drewN | apply IsS98.drew | apply IsS98.set_1) | exact HI0.out)) hg (IsS98.own_ne HI0.out HO_3.out (by decide))); have n1_ := Aside0.mk (below_weaken (by repeat (first | (with_reducible first | exact HB.out | apply below_alloc | apply pw_below_drewN | apply below_drew1 | refine below_set ?_ (IsS98.ge HI0.out)) | exact HB.out)) HL.out hb); have n2_ := Aside0.mk (KeepBut.trans (by repeat (first | (with_reducible first | exact HK.out | apply KeepBut.set_ | apply keep_drewN | apply keep_drew | apply keep_alloc) | exact HK.out)) (KeepBut.of_grown hg g) (Kd.R_base2 HO_3.out)); have n3_ := Aside0.mk (ho); clear HI0; clear HB; clear HK; clear HO_3; have HI0 := n0_; have HB := n1_; have HK := n2_; have HO210 := n3_; clear n0_ n1_ n2_ n3_; clear ho hb hg hat))
          go_roundg k1
          case measure => have := HK1.out; omega
          case rel => exact ⟨(y208), (wrap64 (x4_1 - 1)), (t207), (by first | rfl | (simp; done) | (simp [*]; done)), H', ⟨by have := HK1.out; omega⟩, ⟨by (with_reducible repeat (first | apply Kd.R_alloc | apply Kd.R_drewN | apply Kd.R_drew)); exact HO210.out⟩, ⟨by repeat (first | (with_reducible first | exact HI0.out | apply IsS98.alloc | apply IsS98.drewN | apply IsS98.drew | apply IsS98.set_1) | exact HI0.out)⟩, ⟨by repeat (first | (with_reducible first | exact HK.out | apply KeepBut.set_ | apply keep_drewN | apply keep_drew | apply keep_alloc) | exact HK.out)⟩, ⟨by repeat (first | (with_reducible first | exact HB.out | apply below_alloc | apply pw_below_drewN | apply below_drew1 | refine below_set ?_ (IsS98.ge HI0.out)) | exact HB.out)⟩⟩
        · rw [if_neg c8] at H
          exact absurd H (by simp)
      · rw [if_neg c6] at H
        have c6b0 : decide (0 < x4_1) = false := decide_eq_false c6
        clear c6
        simp only [Option.some.injEq, Prod.mk.injEq] at H
        obtain ⟨rfl, rfl⟩ := H
        go_wp2
        go_ret
        exact ⟨_, by first | rfl | (simp [errW_none, errW_some] <;> rfl) | (simp [*, errW_none, errW_some] <;> rfl), by (with_reducible repeat (first | apply Kd.R_alloc | apply Kd.R_drewN | apply Kd.R_drew)); exact HO_3.out, by repeat (first | (with_reducible first | exact HI0.out | apply IsS98.alloc | apply IsS98.drewN | apply IsS98.drew | apply IsS98.set_1) | exact HI0.out), by repeat (first | (with_reducible first | exact HB.out | apply below_alloc | apply pw_below_drewN | apply below_drew1 | refine below_set ?_ (IsS98.ge HI0.out)) | exact HB.out), by repeat (first | (with_reducible first | exact HK.out | apply KeepBut.set_ | apply keep_drewN | apply keep_drew | apply keep_alloc) | exact HK.out)⟩

/-! ### spec_DrawRangeWiden: function 39 -/
theorem spec_DrawRangeWiden.mono : ∀ a0 k, LeO (spec_DrawRangeWiden.f k a0) (spec_DrawRangeWiden.f (k + 1) a0) := by
  intro a0 k
  unfold spec_DrawRangeWiden.f
  repeat' first
      | (with_reducible exact spec_l8Steps.mono _ _ _)
      | (with_reducible exact spec_l8Two.mono _ _ _)
      | (with_reducible exact LeO.refl _)
      | (with_reducible exact LeO.none _)
      | (with_reducible refine LeO.ite ?_ ?_)
      | (with_reducible refine LeO.bind ?_ (fun _ => ?_))
      | exact spec_l8Steps.mono _ _ _
      | exact spec_l8Two.mono _ _ _
      | exact LeO.none _
      | refine LeO.ite ?_ ?_
      | refine LeO.bind ?_ (fun _ => ?_)
set_option maxHeartbeats 8000000 in
set_option maxRecDepth 100000 in
theorem spec_DrawRangeWiden.calls (k : Nat) (A0 : Option Addr) (c0 : Nat) (l0 : List Int) (r1 : Int) (r2 : Int) (r3 : Int) (r4 : Int) (r5 : List Int) (w : World) (hr0 : Kd.C (Kd.int .u8) w A0 l0.length l0) (hc0 : l0.length ≤ c0) (h : spec_DrawRangeWiden.f k l0 = some (r1, r2, r3, r4, r5)) :
    Calls Try.prog 39 #[.slice A0 l0.length c0] w fun e w' => ∃ v4_ : Value, e = .returned (.tuple #[.agg #[.int .i64 r1, .int .i64 r2], .agg #[.int .i64 r3, .int .i64 r4], v4_]) ∧ Kd.R (Kd.int .i64) 3 w' w.heap.size (fun _ => True) v4_ r5 ∧ Below w.heap.size w w' := by
  have hu27 := Try.underlying27
  have HR0 := Aside0.mk hr0
  have HC0 := Aside0.mk hc0
  clear hr0 hc0
  have HB := Aside0.mk (Below.refl w.heap.size w)
  have H : ((spec_l1Open.f l0).bind fun bt213 => ((spec_l8Two.f k bt213.1 bt213.2).bind fun bt216 => ((spec_l8Steps.f k bt213.1 bt216.2.2.2.2).bind fun bt223 => (some (bt216.1, bt216.2.1, bt216.2.2.1, bt216.2.2.2.1, bt223.1))))) = some (r1, r2, r3, r4, r5) := h
  clear h
  replace H := Option.bind_eq_some_iff.mp H
  obtain ⟨⟨t213, t214⟩, A20, H⟩ := H
  replace H : ((spec_l8Two.f k t213 t214).bind fun bt216 => ((spec_l8Steps.f k t213 bt216.2.2.2.2).bind fun bt223 => (some (bt216.1, bt216.2.1, bt216.2.2.1, bt216.2.2.2.1, bt223.1)))) = some (r1, r2, r3, r4, r5) := H
  have A2 := Aside0.mk A20
  clear A20
  replace H := Option.bind_eq_some_iff.mp H
  obtain ⟨⟨t216, t217, t218, t219, t220⟩, A30, H⟩ := H
  replace H : ((spec_l8Steps.f k t213 t220).bind fun bt223 => (some (t216, t217, t218, t219, bt223.1))) = some (r1, r2, r3, r4, r5) := H
  have A3 := Aside0.mk A30
  clear A30
  replace H := Option.bind_eq_some_iff.mp H
  obtain ⟨⟨t223, t226⟩, A40, H⟩ := H
  replace H : (some (t216, t217, t218, t219, t223)) = some (r1, r2, r3, r4, r5) := H
  have A4 := Aside0.mk A40
  clear A40
  simp only [Option.some.injEq, Prod.mk.injEq] at H
  obtain ⟨rfl, rfl, rfl, rfl, rfl⟩ := H
  go_enter Try.func39, Try.ntmps39
  try go_wp2_with (first | ((with_reducible refine gate_dst (N := 2) rfl ?_); refine sqx 2 #[.int .i64 0, .int .i64 0] 27 ?_; intro gb211 hg w5 hbox hb; have BK211 := Aside0.mk (hbox); have GW211 := sqg HB hg; have GE211 := sqg HB hg; replace HB := sqs HB hb; clear hb hbox hg) | ((with_reducible refine gate_dst (N := 3) rfl ?_); refine sqx 3 #[.int .i64 0, .int .i64 0] 27 ?_; intro gb212 hg w6 hbox hb; have BK212 := Aside0.mk (hbox); have GW212 := sqg HB hg; have GE212 := sqg HB hg; have NB211_212 := sqn BK211 hg; have NB212_211 := sqm BK211 hg; replace BK211 := sqb BK211 hb; replace HB := sqs HB hb; clear hb hbox hg) | ((with_reducible refine gate_callee (f := 87) rfl ?_); refine sqL (some 9) Try.func87 #[.slice A0 l0.length c0] ?_; (with_reducible refine (spec_l1Open.calls _ _ l0 t213 t214 w _ ?side1 ?side2 ?side3 A2.out).mono ?_); (case side1 => repeat (first | (with_reducible first | exact HB.out | apply below_alloc | apply pw_below_drewN | apply below_drew1 | refine below_set ?_ GE211.out | refine below_set ?_ GE212.out) | exact HB.out)); (case side2 => exact HR0.out); (case side3 => exact HC0.out); rintro e w7 ⟨g215, rfl, hi, hb, hb2⟩; refine ⟨_, rfl, ?_⟩; have n0_ := Aside0.mk (blk_below (g := gb211) (o := .cells #[.int .i64 0, .int .i64 0] 27 (0, 0)) (by refine sqt ?_; exact BK211.out) hb2); have n1_ := Aside0.mk (blk_below (g := gb212) (o := .cells #[.int .i64 0, .int .i64 0] 27 (0, 0)) (by refine sqt ?_; exact BK212.out) hb2); have n2_ := Aside0.mk (hb); have n3_ := Aside0.mk (hi); have n4_ := Aside0.mk (IsS98.ne_blk hi (blk_below (g := gb211) (o := .cells #[.int .i64 0, .int .i64 0] 27 (0, 0)) (by refine sqt ?_; exact BK211.out) hb2) (by decide)); have n5_ := Aside0.mk (Ne.symm (IsS98.ne_blk hi (blk_below (g := gb211) (o := .cells #[.int .i64 0, .int .i64 0] 27 (0, 0)) (by refine sqt ?_; exact BK211.out) hb2) (by decide))); have n6_ := Aside0.mk (IsS98.ne_blk hi (blk_below (g := gb212) (o := .cells #[.int .i64 0, .int .i64 0] 27 (0, 0)) (by refine sqt ?_; exact BK212.out) hb2) (by decide)); have n7_ := Aside0.mk (Ne.symm (IsS98.ne_blk hi (blk_below (g := gb212) (o := .cells #[.int .i64 0, .int .i64 0] 27 (0, 0)) (by refine sqt ?_; exact BK212.out) hb2) (by decide))); clear BK211; clear BK212; clear HB; have BK211 := n0_; have BK212 := n1_; have HB := n2_; have HI215 := n3_; have NB215_211 := n4_; have NB211_215 := n5_; have NB215_212 := n6_; have NB212_215 := n7_; clear n0_ n1_ n2_ n3_ n4_ n5_ n6_ n7_; (try clear hb); (try clear hb2); (try clear hk); (try clear hi)) | ((with_reducible refine gate_callee (f := 96) rfl ?_); refine sqL (some 12) Try.func96 #[.pointer (some ⟨g215, 0, none⟩)] ?_; (with_reducible refine (spec_l8Two.calls k g215 t213 t214 t216 t217 t218 t219 t220 w _ ?side1 ?side2 A3.out).mono ?_); (case side1 => repeat (first | (with_reducible first | exact HI215.out | apply IsS98.alloc | apply IsS98.drewN | apply IsS98.drew | apply IsS98.set_1 | refine IsS98.far ?_ NB215_211.out _ | refine IsS98.far ?_ NB215_212.out _) | exact HI215.out)); (case side2 => repeat (first | (with_reducible first | exact HB.out | apply below_alloc | apply pw_below_drewN | apply below_drew1 | refine below_set ?_ (IsS98.ge HI215.out) | refine below_set ?_ GE211.out | refine below_set ?_ GE212.out) | exact HB.out)); rintro e w8 ⟨rfl, hi, hb, hk⟩; refine ⟨_, rfl, ?_⟩; have n0_ := Aside0.mk (KeepBut.blk hk (g' := gb211) (o := .cells #[.int .i64 0, .int .i64 0] 27 (0, 0)) (by refine sqt ?_; exact BK211.out) NB211_215.out (by simp)); have n1_ := Aside0.mk (KeepBut.blk hk (g' := gb212) (o := .cells #[.int .i64 0, .int .i64 0] 27 (0, 0)) (by refine sqt ?_; exact BK212.out) NB212_215.out (by simp)); have n2_ := Aside0.mk (hb); have n3_ := Aside0.mk (hi); clear BK211; clear BK212; clear HB; clear HI215; have BK211 := n0_; have BK212 := n1_; have HB := n2_; have HI215 := n3_; clear n0_ n1_ n2_ n3_; (try clear hb); (try clear hb2); (try clear hk); (try clear hi)) | ((with_reducible refine gate_dst (N := 6) rfl ?_); refine sqx 6 #[.int .i64 0, .int .i64 0] 27 ?_; intro gb221 hg w9 hbox hb; have n0_ := sqb BK211 hb; have n1_ := sqb BK212 hb; have n2_ := Aside0.mk (IsS98.below (by repeat (first | (with_reducible first | exact HI215.out | apply IsS98.alloc | apply IsS98.drewN | apply IsS98.drew | apply IsS98.set_1 | refine IsS98.far ?_ NB215_211.out _ | refine IsS98.far ?_ NB215_212.out _) | exact HI215.out)) hb); have n3_ := Aside0.mk (below_step (by repeat (first | (with_reducible first | exact HB.out | apply below_alloc | apply pw_below_drewN | apply below_drew1 | refine below_set ?_ (IsS98.ge HI215.out) | refine below_set ?_ GE211.out | refine below_set ?_ GE212.out) | exact HB.out)) hb); have n4_ := Aside0.mk (hbox); have n5_ := Aside0.mk ((by rw [hg]; exact (below_size (by repeat (first | (with_reducible first | exact HB.out | apply below_alloc | apply pw_below_drewN | apply below_drew1 | refine below_set ?_ (IsS98.ge HI215.out) | refine below_set ?_ GE211.out | refine below_set ?_ GE212.out) | exact HB.out))) : w.heap.size ≤ gb221)); have n6_ := Aside0.mk ((by rw [hg]; exact (below_size (by repeat (first | (with_reducible first | exact HB.out | apply below_alloc | apply pw_below_drewN | apply below_drew1 | refine below_set ?_ (IsS98.ge HI215.out) | refine below_set ?_ GE211.out | refine below_set ?_ GE212.out) | exact HB.out))) : w.heap.size ≤ gb221)); have n7_ := sqn BK211 hg; have n8_ := sqm BK211 hg; have n9_ := sqn BK212 hg; have n10_ := sqm BK212 hg; have n11_ := Aside0.mk ((by rw [hg]; exact Nat.ne_of_lt (IsS98.lt (show IsS98 w _ g215 t213 t220 from by repeat (first | (with_reducible first | exact HI215.out | apply IsS98.alloc | apply IsS98.drewN | apply IsS98.drew | apply IsS98.set_1 | refine IsS98.far ?_ NB215_211.out _ | refine IsS98.far ?_ NB215_212.out _) | exact HI215.out))) : g215 ≠ gb221)); have n12_ := Aside0.mk ((by rw [hg]; exact Nat.ne_of_gt (IsS98.lt (show IsS98 w _ g215 t213 t220 from by repeat (first | (with_reducible first | exact HI215.out | apply IsS98.alloc | apply IsS98.drewN | apply IsS98.drew | apply IsS98.set_1 | refine IsS98.far ?_ NB215_211.out _ | refine IsS98.far ?_ NB215_212.out _) | exact HI215.out))) : gb221 ≠ g215)); clear BK211; clear BK212; clear HI215; clear HB; have BK211 := n0_; have BK212 := n1_; have HI215 := n2_; have HB := n3_; have BK221 := n4_; have GW221 := n5_; have GE221 := n6_; have NB211_221 := n7_; have NB221_211 := n8_; have NB212_221 := n9_; have NB221_212 := n10_; have NB215_221 := n11_; have NB221_215 := n12_; clear n0_ n1_ n2_ n3_ n4_ n5_ n6_ n7_ n8_ n9_ n10_ n11_ n12_; clear hb hbox hg) | ((with_reducible refine gate_dst (N := 7) rfl ?_); refine sqx 7 #[.int .i64 0, .int .i64 0] 27 ?_; intro gb222 hg w10 hbox hb; have n0_ := sqb BK211 hb; have n1_ := sqb BK212 hb; have n2_ := Aside0.mk (IsS98.below (by repeat (first | (with_reducible first | exact HI215.out | apply IsS98.alloc | apply IsS98.drewN | apply IsS98.drew | apply IsS98.set_1 | refine IsS98.far ?_ NB215_211.out _ | refine IsS98.far ?_ NB215_212.out _ | refine IsS98.far ?_ NB215_221.out _) | exact HI215.out)) hb); have n3_ := sqb BK221 hb; have n4_ := Aside0.mk (below_step (by repeat (first | (with_reducible first | exact HB.out | apply below_alloc | apply pw_below_drewN | apply below_drew1 | refine below_set ?_ (IsS98.ge HI215.out) | refine below_set ?_ GE211.out | refine below_set ?_ GE212.out | refine below_set ?_ GE221.out) | exact HB.out)) hb); have n5_ := Aside0.mk (hbox); have n6_ := Aside0.mk ((by rw [hg]; exact (below_size (by repeat (first | (with_reducible first | exact HB.out | apply below_alloc | apply pw_below_drewN | apply below_drew1 | refine below_set ?_ (IsS98.ge HI215.out) | refine below_set ?_ GE211.out | refine below_set ?_ GE212.out | refine below_set ?_ GE221.out) | exact HB.out))) : w.heap.size ≤ gb222)); have n7_ := Aside0.mk ((by rw [hg]; exact (below_size (by repeat (first | (with_reducible first | exact HB.out | apply below_alloc | apply pw_below_drewN | apply below_drew1 | refine below_set ?_ (IsS98.ge HI215.out) | refine below_set ?_ GE211.out | refine below_set ?_ GE212.out | refine below_set ?_ GE221.out) | exact HB.out))) : w.heap.size ≤ gb222)); have n8_ := sqn BK211 hg; have n9_ := sqm BK211 hg; have n10_ := sqn BK212 hg; have n11_ := sqm BK212 hg; have n12_ := sqn BK221 hg; have n13_ := sqm BK221 hg; have n14_ := Aside0.mk ((by rw [hg]; exact Nat.ne_of_lt (IsS98.lt (show IsS98 w _ g215 t213 t220 from by repeat (first | (with_reducible first | exact HI215.out | apply IsS98.alloc | apply IsS98.drewN | apply IsS98.drew | apply IsS98.set_1 | refine IsS98.far ?_ NB215_211.out _ | refine IsS98.far ?_ NB215_212.out _ | refine IsS98.far ?_ NB215_221.out _) | exact HI215.out))) : g215 ≠ gb222)); have n15_ := Aside0.mk ((by rw [hg]; exact Nat.ne_of_gt (IsS98.lt (show IsS98 w _ g215 t213 t220 from by repeat (first | (with_reducible first | exact HI215.out | apply IsS98.alloc | apply IsS98.drewN | apply IsS98.drew | apply IsS98.set_1 | refine IsS98.far ?_ NB215_211.out _ | refine IsS98.far ?_ NB215_212.out _ | refine IsS98.far ?_ NB215_221.out _) | exact HI215.out))) : gb222 ≠ g215)); clear BK211; clear BK212; clear HI215; clear BK221; clear HB; have BK211 := n0_; have BK212 := n1_; have HI215 := n2_; have BK221 := n3_; have HB := n4_; have BK222 := n5_; have GW222 := n6_; have GE222 := n7_; have NB211_222 := n8_; have NB222_211 := n9_; have NB212_222 := n10_; have NB222_212 := n11_; have NB221_222 := n12_; have NB222_221 := n13_; have NB215_222 := n14_; have NB222_215 := n15_; clear n0_ n1_ n2_ n3_ n4_ n5_ n6_ n7_ n8_ n9_ n10_ n11_ n12_ n13_ n14_ n15_; clear hb hbox hg; have hnb11 := NB221_211.out; have hnc11 := NB211_221.out; have hnb12 := NB221_212.out; have hnc12 := NB212_221.out; have hnb13 := NB221_222.out; have hnc13 := NB222_221.out; have hnb14 := NB221_215.out; have hnc14 := NB215_221.out; obtain ⟨hcz15_0, hcz15_1, hfz15_0, hfz15_1⟩ := sqc2 BK221; have hnb16 := NB222_211.out; have hnc16 := NB211_222.out; have hnb17 := NB222_212.out; have hnc17 := NB212_222.out; have hnb18 := NB222_215.out; have hnc18 := NB215_222.out; obtain ⟨hcz19_0, hcz19_1, hfz19_0, hfz19_1⟩ := sqc2 BK222))
  have n0_ : Aside0 (((((w10.setCell ⟨gb221, 0, none⟩ (.int .i64 t216)).setCell ⟨gb221, 1, none⟩ (.int .i64 t217)).setCell ⟨gb222, 0, none⟩ (.int .i64 t218)).setCell ⟨gb222, 1, none⟩ (.int .i64 t219)).heap[gb211]? = some (.cells #[.int .i64 0, .int .i64 0] 27 (0, 0))) := ⟨by refine sqt ?_; refine blk_far ?_ NB211_222.out _; refine sqt ?_; refine blk_far ?_ NB211_222.out _; refine sqt ?_; refine blk_far ?_ NB211_221.out _; refine sqt ?_; refine blk_far ?_ NB211_221.out _; refine sqt ?_; exact BK211.out⟩
  have n1_ : Aside0 (((((w10.setCell ⟨gb221, 0, none⟩ (.int .i64 t216)).setCell ⟨gb221, 1, none⟩ (.int .i64 t217)).setCell ⟨gb222, 0, none⟩ (.int .i64 t218)).setCell ⟨gb222, 1, none⟩ (.int .i64 t219)).heap[gb212]? = some (.cells #[.int .i64 0, .int .i64 0] 27 (0, 0))) := ⟨by refine sqt ?_; refine blk_far ?_ NB212_222.out _; refine sqt ?_; refine blk_far ?_ NB212_222.out _; refine sqt ?_; refine blk_far ?_ NB212_221.out _; refine sqt ?_; refine blk_far ?_ NB212_221.out _; refine sqt ?_; exact BK212.out⟩
  have n2_ : Aside0 (((((w10.setCell ⟨gb221, 0, none⟩ (.int .i64 t216)).setCell ⟨gb221, 1, none⟩ (.int .i64 t217)).setCell ⟨gb222, 0, none⟩ (.int .i64 t218)).setCell ⟨gb222, 1, none⟩ (.int .i64 t219)).heap[gb221]? = some (.cells #[.int .i64 t216, .int .i64 t217] 27 (0, 0))) := ⟨by refine sqt ?_; refine blk_far ?_ NB221_222.out _; refine sqt ?_; refine blk_far ?_ NB221_222.out _; refine sqt ?_; refine blk_put (cs := #[.int .i64 t216, .int .i64 0]) ?_ 1 _ rfl; refine sqt ?_; refine blk_put (cs := #[.int .i64 0, .int .i64 0]) ?_ 0 _ rfl; refine sqt ?_; exact BK221.out⟩
  have n3_ : Aside0 (((((w10.setCell ⟨gb221, 0, none⟩ (.int .i64 t216)).setCell ⟨gb221, 1, none⟩ (.int .i64 t217)).setCell ⟨gb222, 0, none⟩ (.int .i64 t218)).setCell ⟨gb222, 1, none⟩ (.int .i64 t219)).heap[gb222]? = some (.cells #[.int .i64 t218, .int .i64 t219] 27 (0, 0))) := ⟨by refine sqt ?_; refine blk_put (cs := #[.int .i64 t218, .int .i64 0]) ?_ 1 _ rfl; refine sqt ?_; refine blk_put (cs := #[.int .i64 0, .int .i64 0]) ?_ 0 _ rfl; refine sqt ?_; refine blk_far ?_ NB222_221.out _; refine sqt ?_; refine blk_far ?_ NB222_221.out _; refine sqt ?_; exact BK222.out⟩
  have n4_ : Aside0 (IsS98 w ((((w10.setCell ⟨gb221, 0, none⟩ (.int .i64 t216)).setCell ⟨gb221, 1, none⟩ (.int .i64 t217)).setCell ⟨gb222, 0, none⟩ (.int .i64 t218)).setCell ⟨gb222, 1, none⟩ (.int .i64 t219)) g215 t213 t220) := ⟨by repeat (first | (with_reducible first | exact HI215.out | apply IsS98.alloc | apply IsS98.drewN | apply IsS98.drew | apply IsS98.set_1 | refine IsS98.far ?_ NB215_211.out _ | refine IsS98.far ?_ NB215_212.out _ | refine IsS98.far ?_ NB215_221.out _ | refine IsS98.far ?_ NB215_222.out _) | exact HI215.out)⟩
  have n5_ : Aside0 (Below w.heap.size w ((((w10.setCell ⟨gb221, 0, none⟩ (.int .i64 t216)).setCell ⟨gb221, 1, none⟩ (.int .i64 t217)).setCell ⟨gb222, 0, none⟩ (.int .i64 t218)).setCell ⟨gb222, 1, none⟩ (.int .i64 t219))) := ⟨by repeat (first | (with_reducible first | exact HB.out | apply below_alloc | apply pw_below_drewN | apply below_drew1 | refine below_set ?_ (IsS98.ge HI215.out) | refine below_set ?_ GE211.out | refine below_set ?_ GE212.out | refine below_set ?_ GE221.out | refine below_set ?_ GE222.out) | exact HB.out)⟩
  (try clear BK211)
  (try clear BK212)
  (try clear BK221)
  (try clear BK222)
  (try clear HI215)
  (try clear HB)
  generalize ((((w10.setCell ⟨gb221, 0, none⟩ (.int .i64 t216)).setCell ⟨gb221, 1, none⟩ (.int .i64 t217)).setCell ⟨gb222, 0, none⟩ (.int .i64 t218)).setCell ⟨gb222, 1, none⟩ (.int .i64 t219)) = w20 at n0_ n1_ n2_ n3_ n4_ n5_ ⊢
  have BK211 := n0_
  have BK212 := n1_
  have BK221 := n2_
  have BK222 := n3_
  have HI215 := n4_
  have HB := n5_
  clear n0_ n1_ n2_ n3_ n4_ n5_
  replace BK211 := Aside0.mk (blk_drew BK211.out)
  replace BK212 := Aside0.mk (blk_drew BK212.out)
  replace BK221 := Aside0.mk (blk_drew BK221.out)
  replace BK222 := Aside0.mk (blk_drew BK222.out)
  replace HI215 := Aside0.mk (IsS98.drew HI215.out)
  replace HB := Aside0.mk (below_drew1 HB.out)
  refine start_ (n := 7) (S := fun w' => w'.cell? ⟨gb221, 0, none⟩ = some (.int .i64 t216) ∧ w'.cell? ⟨gb221, 1, none⟩ = some (.int .i64 t217) ∧ w'.cell? ⟨gb222, 0, none⟩ = some (.int .i64 t218) ∧ w'.cell? ⟨gb222, 1, none⟩ = some (.int .i64 t219)) (ds := []) #[false, false, false, false, false, false, false] (by kernel_rfl) rfl rfl ⟨(blk_cell BK221.out 0).trans rfl, (blk_cell BK221.out 1).trans rfl, (blk_cell BK222.out 0).trans rfl, (blk_cell BK222.out 1).trans rfl⟩ (fun hHeld => ?_)
  generalize w20.drew = w21 at BK211 BK212 BK221 BK222 HI215 HB hHeld ⊢
  refine pure_ (i := 2) (N := some 17) (v := ?_) (a' := ?_) #[false, false, true, false, false, false, false] rfl rfl (by kernel_rfl) (fun _ _ _ h => h) (Or.inl ⟨by rfl, ?_⟩) ?_ ?_
  rotate_left
  · intro w'
    go_simp
    with_reducible rfl
  rotate_left
  · simp only [Act.put, List.setIfInBounds_toArray, List.set_cons_zero, List.set_cons_succ, i64_w, i32_w]
    rfl
  refine take_ (i := 0) (N := some 15) (v := ?_) (a' := ?_) #[true, false, true, false, false, false, false] rfl rfl (by kernel_rfl) (fun _ _ _ h => h) (Or.inl ⟨by rfl, ?_⟩) hHeld ?_ ?_
  rotate_left
  · rintro w' ⟨s0, s1, s2, s3⟩
    go_simp
    with_reducible rfl
  rotate_left
  · simp only [Act.put, List.setIfInBounds_toArray, List.set_cons_zero, List.set_cons_succ, i64_w, i32_w]
    rfl
  refine take_ (i := 1) (N := some 16) (v := ?_) (a' := ?_) #[true, true, true, false, false, false, false] rfl rfl (by kernel_rfl) (fun _ _ _ h => h) (Or.inl ⟨by rfl, ?_⟩) hHeld ?_ ?_
  rotate_left
  · rintro w' ⟨s0, s1, s2, s3⟩
    go_simp
    with_reducible rfl
  rotate_left
  · simp only [Act.put, List.setIfInBounds_toArray, List.set_cons_zero, List.set_cons_succ, i64_w, i32_w]
    rfl
  refine one_ (i := 3) (N := some 18) #[true, true, true, true, false, false, false] rfl rfl (by kernel_rfl) (by decide) (fun K hK => ?_)
  refine sqG Try.func97 #[.pointer (some ⟨g215, 0, none⟩)] ?_
  with_reducible refine (spec_l8Steps.calls k g215 t213 t220 t223 t226 w _ ?side1 ?side2 A4.out).mono ?_
  (case side1 => repeat (first | (with_reducible first | exact HI215.out | apply IsS98.alloc | apply IsS98.drewN | apply IsS98.drew | apply IsS98.set_1 | refine IsS98.far ?_ NB215_211.out _ | refine IsS98.far ?_ NB215_212.out _ | refine IsS98.far ?_ NB215_221.out _ | refine IsS98.far ?_ NB215_222.out _) | exact HI215.out))
  (case side2 => repeat (first | (with_reducible first | exact HB.out | apply below_alloc | apply pw_below_drewN | apply below_drew1 | refine below_set ?_ (IsS98.ge HI215.out) | refine below_set ?_ GE211.out | refine below_set ?_ GE212.out | refine below_set ?_ GE221.out | refine below_set ?_ GE222.out) | exact HB.out))
  rintro e w22 ⟨v224, rfl, ho0, hi, hb, hk⟩
  refine ⟨_, rfl, ?_⟩
  have n0_ := Aside0.mk (KeepBut.blk hk (g' := gb211) (o := .cells #[.int .i64 0, .int .i64 0] 27 (0, 0)) (by refine sqt ?_; exact BK211.out) NB211_215.out (by simp))
  have n1_ := Aside0.mk (KeepBut.blk hk (g' := gb212) (o := .cells #[.int .i64 0, .int .i64 0] 27 (0, 0)) (by refine sqt ?_; exact BK212.out) NB212_215.out (by simp))
  have n2_ := Aside0.mk (KeepBut.blk hk (g' := gb221) (o := .cells #[.int .i64 t216, .int .i64 t217] 27 (0, 0)) (by refine sqt ?_; exact BK221.out) NB221_215.out (by simp))
  have n3_ := Aside0.mk (KeepBut.blk hk (g' := gb222) (o := .cells #[.int .i64 t218, .int .i64 t219] 27 (0, 0)) (by refine sqt ?_; exact BK222.out) NB222_215.out (by simp))
  have n4_ := Aside0.mk (Kd.R_lower ho0 (below_size (by repeat (first | (with_reducible first | exact HB.out | apply below_alloc | apply pw_below_drewN | apply below_drew1 | refine below_set ?_ (IsS98.ge HI215.out) | refine below_set ?_ GE211.out | refine below_set ?_ GE212.out | refine below_set ?_ GE221.out | refine below_set ?_ GE222.out) | exact HB.out))))
  have n5_ := Aside0.mk (hb)
  have n6_ := Aside0.mk (hi)
  clear BK211
  clear BK212
  clear BK221
  clear BK222
  clear HB
  clear HI215
  have BK211 := n0_
  have BK212 := n1_
  have BK221 := n2_
  have BK222 := n3_
  have HO225 := n4_
  have HB := n5_
  have HI215 := n6_
  clear n0_ n1_ n2_ n3_ n4_ n5_ n6_
  (try clear hb)
  (try clear hb2)
  (try clear hk)
  (try clear hi)
  (try clear ho0)
  refine hK.out _ _ sqz (fun hHeld => ?_)
  clear hK K
  refine sqnm ?_
  refine one_ (i := 4) (N := none) #[true, true, true, true, true, false, false] rfl rfl (by kernel_rfl) (by decide) (fun K hK => ?_)
  have hs23 : w22.cell? ⟨gb211, 0, none⟩ = some (.int .i64 0) := (blk_cell BK211.out 0).trans rfl
  have hfs23 := blk_frozen BK211.out 0
  have hns23_1 := NB212_211.out
  have hns23_2 := NB221_211.out
  have hns23_3 := NB222_211.out
  have hms23_1 := NB211_212.out
  have hms23_2 := NB211_221.out
  have hms23_3 := NB211_222.out
  have hs24 : w22.cell? ⟨gb211, 1, none⟩ = some (.int .i64 0) := (blk_cell BK211.out 1).trans rfl
  have hfs24 := blk_frozen BK211.out 1
  have hns24_1 := NB212_211.out
  have hns24_2 := NB221_211.out
  have hns24_3 := NB222_211.out
  have hms24_1 := NB211_212.out
  have hms24_2 := NB211_221.out
  have hms24_3 := NB211_222.out
  refine skip_ (w1 := ?_) (by rfl) rfl ?_ ?_
  rotate_left
  · go_simp
    rfl
  refine hK.out _ _ ⟨((cell_far (p := ⟨gb211, _, none⟩) NB221_211.out _).trans (((cell_far (p := ⟨gb211, _, none⟩) NB221_211.out _).trans (hHeld.1)))), ((cell_far (p := ⟨gb211, _, none⟩) NB221_211.out _).trans (((cell_far (p := ⟨gb211, _, none⟩) NB221_211.out _).trans (hHeld.2.1)))), ((cell_far (p := ⟨gb211, _, none⟩) NB222_211.out _).trans (((cell_far (p := ⟨gb211, _, none⟩) NB222_211.out _).trans (hHeld.2.2.1)))), ((cell_far (p := ⟨gb211, _, none⟩) NB222_211.out _).trans (((cell_far (p := ⟨gb211, _, none⟩) NB222_211.out _).trans (hHeld.2.2.2))))⟩ (fun hHeld => ?_)
  clear hK K
  refine one_ (i := 5) (N := none) #[true, true, true, true, true, true, false] rfl rfl (by kernel_rfl) (by decide) (fun K hK => ?_)
  have hs25 : w22.cell? ⟨gb212, 0, none⟩ = some (.int .i64 0) := (blk_cell BK212.out 0).trans rfl
  have hfs25 := blk_frozen BK212.out 0
  have hns25_0 := NB211_212.out
  have hns25_2 := NB221_212.out
  have hns25_3 := NB222_212.out
  have hms25_0 := NB212_211.out
  have hms25_2 := NB212_221.out
  have hms25_3 := NB212_222.out
  have hs26 : w22.cell? ⟨gb212, 1, none⟩ = some (.int .i64 0) := (blk_cell BK212.out 1).trans rfl
  have hfs26 := blk_frozen BK212.out 1
  have hns26_0 := NB211_212.out
  have hns26_2 := NB221_212.out
  have hns26_3 := NB222_212.out
  have hms26_0 := NB212_211.out
  have hms26_2 := NB212_221.out
  have hms26_3 := NB212_222.out
  refine skip_ (w1 := ?_) (by rfl) rfl ?_ ?_
  rotate_left
  · go_simp
    rfl
  refine hK.out _ _ ⟨((cell_far (p := ⟨gb212, _, none⟩) NB221_212.out _).trans (((cell_far (p := ⟨gb212, _, none⟩) NB221_212.out _).trans (hHeld.1)))), ((cell_far (p := ⟨gb212, _, none⟩) NB221_212.out _).trans (((cell_far (p := ⟨gb212, _, none⟩) NB221_212.out _).trans (hHeld.2.1)))), ((cell_far (p := ⟨gb212, _, none⟩) NB222_212.out _).trans (((cell_far (p := ⟨gb212, _, none⟩) NB222_212.out _).trans (hHeld.2.2.1)))), ((cell_far (p := ⟨gb212, _, none⟩) NB222_212.out _).trans (((cell_far (p := ⟨gb212, _, none⟩) NB222_212.out _).trans (hHeld.2.2.2))))⟩ (fun hHeld => ?_)
  clear hK K
  refine pure_ (i := 6) (N := some 4) (v := ?_) (a' := ?_) #[true, true, true, true, true, true, true] rfl rfl (by kernel_rfl) (fun _ _ _ h => h) (Or.inl ⟨by rfl, ?_⟩) ?_ ?_
  rotate_left
  · intro w'
    go_simp
    with_reducible rfl
  rotate_left
  · simp only [Act.put, List.setIfInBounds_toArray, List.set_cons_zero, List.set_cons_succ, i64_w, i32_w]
    rfl
  refine done_ (by kernel_rfl) ?_
  try go_wp2
  refine bodyPost_ret (results_list (rs := [.cell 2 27, .cell 3 27, .tmp 4]) rfl (by simp) (.cell gb211 27 #[.int .i64 t216, .int .i64 t217] (0, 0) _ rfl (by refine sqt ?_; refine blk_far ?_ NB211_212.out _; refine sqt ?_; refine blk_far ?_ NB211_212.out _; refine sqt ?_; refine blk_put (cs := #[.int .i64 t216, .int .i64 0]) ?_ 1 _ rfl; refine sqt ?_; refine blk_put (cs := #[.int .i64 0, .int .i64 0]) ?_ 0 _ rfl; refine sqt ?_; exact BK211.out) Try.underlying27 rfl (by kernel_rfl) (.cell gb212 27 #[.int .i64 t218, .int .i64 t219] (0, 0) _ rfl (by refine sqt ?_; refine blk_put (cs := #[.int .i64 t218, .int .i64 0]) ?_ 1 _ rfl; refine sqt ?_; refine blk_put (cs := #[.int .i64 0, .int .i64 0]) ?_ 0 _ rfl; refine sqt ?_; refine blk_far ?_ NB212_211.out _; refine sqt ?_; refine blk_far ?_ NB212_211.out _; refine sqt ?_; exact BK212.out) Try.underlying27 rfl (by kernel_rfl) (.tmp .nil)))) rfl ?_
  exact ⟨_, by first | rfl | (simp [errW_none, errW_some] <;> rfl) | (simp [*, errW_none, errW_some] <;> rfl), by (with_reducible repeat (first | apply Kd.R_alloc | apply Kd.R_drewN | apply Kd.R_drew)); exact Kd.R_mono (Kd.R_far (p := ⟨gb212, 1, none⟩) (Kd.R_far (p := ⟨gb212, 0, none⟩) (Kd.R_far (p := ⟨gb211, 1, none⟩) (Kd.R_far (p := ⟨gb211, 0, none⟩) (Kd.R_types (Kd.R_types HO225.out BK211.out (by decide)) BK212.out (by decide)) (fun _ hk => hk.1.2) (.int .i64 t216)) (fun _ hk => hk.1.2) (.int .i64 t217)) (fun _ hk => hk.2) (.int .i64 t218)) (fun _ hk => hk.2) (.int .i64 t219)) (fun _ hk => trivial), by repeat (first | (with_reducible first | exact HB.out | apply below_alloc | apply pw_below_drewN | apply below_drew1 | refine below_set ?_ (IsS98.ge HI215.out) | refine below_set ?_ GE211.out | refine below_set ?_ GE212.out | refine below_set ?_ GE221.out | refine below_set ?_ GE222.out) | exact HB.out)⟩

/-! ### impl_rangeNone: function 73 -/
set_option maxHeartbeats 8000000 in
set_option maxRecDepth 100000 in
theorem impl_rangeNone.calls  (r1 : Int) (r2 : Int) (w : World) (h : impl_rangeNone.f  = some (r1, r2)) :
    Calls Try.prog 73 #[] w fun e w' => e = .returned (.agg #[.int .i64 r1, .int .i64 r2]) ∧ Below w.heap.size w w' := by
  have hu27 := Try.underlying27
  have HB := Aside0.mk (Below.refl w.heap.size w)
  have H : (some (1, 0)) = some (r1, r2) := h
  clear h
  simp only [Option.some.injEq, Prod.mk.injEq] at H
  obtain ⟨rfl, rfl⟩ := H
  go_enter Try.func73, Try.ntmps73
  go_wp2_with (first | ((with_reducible refine gate_dst (N := 0) rfl ?_); refine sqx 0 #[.int .i64 0, .int .i64 0] 27 ?_; intro gb227 hg w1 hbox hb; have BK227 := Aside0.mk (hbox); have GW227 := sqg HB hg; have GE227 := sqg HB hg; replace HB := sqs HB hb; clear hb hbox hg; obtain ⟨hcz2_0, hcz2_1, hfz2_0, hfz2_1⟩ := sqc2 BK227))
  refine bodyPost_ret (results_cell_row rfl _ _ gb227 27 #[.int .i64 1, .int .i64 0] (0, 0) _ rfl (by refine sqt ?_; refine blk_put (cs := #[.int .i64 1, .int .i64 0]) ?_ 1 _ rfl; refine sqt ?_; refine blk_put (cs := #[.int .i64 0, .int .i64 0]) ?_ 0 _ rfl; refine sqt ?_; exact BK227.out) Try.underlying27 rfl (by kernel_rfl)) rfl ?_
  exact sqe HB

/-! ### impl_NumOk: function 92 -/
set_option maxHeartbeats 8000000 in
set_option maxRecDepth 100000 in
theorem impl_NumOk.calls (a0 : Int) (r : Bool) (w : World) (h : impl_NumOk.f a0 = some r) :
    Calls Try.prog 92 #[.int .i64 a0] w fun e w' => e = .returned (.bool r) ∧ Drawn0 w w' := by
  have H : (if a0 ≥ (-2147483648) then (some (decide (a0 ≤ 2147483647))) else (some false)) = some r := h
  clear h
  by_cases c2 : a0 ≥ (-2147483648)
  · rw [if_pos c2] at H
    have c2b0 : decide ((-2147483648) ≤ a0) = true := decide_eq_true c2
    clear c2
    obtain rfl := Option.some.inj H
    go_enter Try.func92, Try.ntmps92
    go_wp2
    go_ret
    exact ⟨by first | rfl | (simp; done) | (simp [*]; done), by repeat (first | exact Drawn0.refl _ | apply Drawn0.step)⟩
  · rw [if_neg c2] at H
    have c2b0 : decide ((-2147483648) ≤ a0) = false := decide_eq_false c2
    clear c2
    obtain rfl := Option.some.inj H
    go_enter Try.func92, Try.ntmps92
    go_wp2
    go_ret
    exact ⟨by first | rfl | (simp; done) | (simp [*]; done), by repeat (first | exact Drawn0.refl _ | apply Drawn0.step)⟩

end Go.Proofs.Ytmdcgkkkfncieaa.PFnRangeLattice
