/- Functions of the program as plain Lean functions, and that calls of them come to what these tell. Conditions: those in each law. -/
import Derived.Test.YtkekcenlleebeaaSq
import Derived.Test.YtkekcenlleebeaaDFnGapsBack
import Derived.Test.YtkekcenlleebeaaQFnGapsBackx0
import Derived.Test.YtkekcenlleebeaaQFnGapsBackx1
import Derived.Test.YtkekcenlleebeaaQFnGapsBackx5
import Derived.Test.YtkekcenlleebeaaQFnGapsBackx6
import Derived.Test.YtkekcenlleebeaaQFnGapsBackx7
namespace Go.Proofs.Ytkekcenlleebeaa.PFnGapsBack
open Go.RowKit Go.Proofs.Ytkekcenlleebeaa.Sq Go.Proofs.YtkekcenlleebeaaW.PrintWords Go.Proofs.YtkekcenlleebeaaW.PrintLast Go.Proofs.YtkekcenlleebeaaW.PrintMore
attribute [local go_sem] max2_int min2_int max_two min_two max_three min_three max_four min_four   -- for this text's walks alone
set_option linter.unusedVariables false
set_option linter.unusedSimpArgs false

/-! ### spec_l11One: function 120 -/
theorem spec_l11One.mono : ∀ a0 a1 k, LeO (spec_l11One.f k a0 a1) (spec_l11One.f (k + 1) a0 a1) := by
  intro a0 a1 k
  unfold spec_l11One.f
  repeat' first
      | (with_reducible exact spec_l11Gaps.mono _ _ _ _ _)
      | (with_reducible exact spec_l11Numbers.mono _ _ _ _)
      | (with_reducible exact spec_l11Size.mono _ _ _)
      | (with_reducible exact spec_l11Spoilt.mono _ _ _ _ _)
      | (with_reducible exact LeO.refl _)
      | (with_reducible exact LeO.none _)
      | (with_reducible refine LeO.ite ?_ ?_)
      | (with_reducible refine LeO.bind ?_ (fun _ => ?_))
      | exact spec_l11Gaps.mono _ _ _ _ _
      | exact spec_l11Numbers.mono _ _ _ _
      | exact spec_l11Size.mono _ _ _
      | exact spec_l11Spoilt.mono _ _ _ _ _
      | exact LeO.none _
      | refine LeO.ite ?_ ?_
      | refine LeO.bind ?_ (fun _ => ?_)
set_option maxHeartbeats 8000000 in
set_option maxRecDepth 100000 in
theorem spec_l11One.calls (k : Nat) (g : Nat) (s0_0 : List Int) (s0_1 : Int) (r1 : Int) (r2 : List Int) (r3 : Int) (w0 w : World) (hI : IsS161 w0 w g s0_0 s0_1) (hB : Below w0.heap.size w0 w) (h : spec_l11One.f k s0_0 s0_1 = some (r1, r2, r3)) :
    Calls Try.prog 120 #[.pointer (some ⟨g, 0, none⟩)] w fun e w' => ∃ v1_ : Value, e = .returned (.agg #[.int .i64 r1, v1_]) ∧ Kd.R (Kd.int .i64) 3 w' w.heap.size (fun _ => True) v1_ r2 ∧ IsS161 w0 w' g s0_0 r3 ∧ Below w0.heap.size w0 w' ∧ KeepBut w w' g none := by
  have hu41 := Try.underlying41
  have HI0 := Aside0.mk hI
  have HK := Aside0.mk (KeepBut.refl w g none)
  have HL := Aside0.mk hB.size
  clear hI
  have HW0 := Aside0.mk hB.size
  have HB := Aside0.mk hB
  clear hB
  have H : ((spec_l11Size.f k s0_0 s0_1).bind fun bt252 => ((spec_l11Numbers.f k s0_0 bt252.2 bt252.1).bind fun bt254 => ((spec_l11Gaps.f k s0_0 bt254.2 bt252.1 bt254.1).bind fun bt258 => ((spec_l11Spoilt.f k s0_0 bt258.2.2 bt258.1 bt258.2.1).bind fun bt263 => (some (bt263.1, bt263.2.1, bt263.2.2)))))) = some (r1, r2, r3) := h
  clear h
  replace H := Option.bind_eq_some_iff.mp H
  obtain ⟨⟨t252, t253⟩, A20, H⟩ := H
  replace H : ((spec_l11Numbers.f k s0_0 t253 t252).bind fun bt254 => ((spec_l11Gaps.f k s0_0 bt254.2 t252 bt254.1).bind fun bt258 => ((spec_l11Spoilt.f k s0_0 bt258.2.2 bt258.1 bt258.2.1).bind fun bt263 => (some (bt263.1, bt263.2.1, bt263.2.2))))) = some (r1, r2, r3) := H
  have A2 := Aside0.mk A20
  clear A20
  replace H := Option.bind_eq_some_iff.mp H
  obtain ⟨⟨t254, t257⟩, A30, H⟩ := H
  replace H : ((spec_l11Gaps.f k s0_0 t257 t252 t254).bind fun bt258 => ((spec_l11Spoilt.f k s0_0 bt258.2.2 bt258.1 bt258.2.1).bind fun bt263 => (some (bt263.1, bt263.2.1, bt263.2.2)))) = some (r1, r2, r3) := H
  have A3 := Aside0.mk A30
  clear A30
  replace H := Option.bind_eq_some_iff.mp H
  obtain ⟨⟨t258, t259, t262⟩, A40, H⟩ := H
  replace H : ((spec_l11Spoilt.f k s0_0 t262 t258 t259).bind fun bt263 => (some (bt263.1, bt263.2.1, bt263.2.2))) = some (r1, r2, r3) := H
  have A4 := Aside0.mk A40
  clear A40
  replace H := Option.bind_eq_some_iff.mp H
  obtain ⟨⟨t263, t264, t267⟩, A50, H⟩ := H
  replace H : (some (t263, t264, t267)) = some (r1, r2, r3) := H
  have A5 := Aside0.mk A50
  clear A50
  simp only [Option.some.injEq, Prod.mk.injEq] at H
  obtain ⟨rfl, rfl, rfl⟩ := H
  go_enter Try.func120, Try.ntmps120
  go_wp2_with (first | ((with_reducible refine gate_dst (N := 2) rfl ?_); refine sqx 2 #[.int .i64 0, .slice none 0 0] 41 ?_; intro gb251 hg w6 hbox hb; have n0_ := Aside0.mk (IsS161.below (by repeat (first | (with_reducible first | exact HI0.out | apply IsS161.alloc | apply IsS161.drewN | apply IsS161.drew | apply IsS161.set_1) | exact HI0.out)) hb); have n1_ := Aside0.mk (KeepBut.trans (by repeat (first | (with_reducible first | exact HK.out | apply KeepBut.set_ | apply keep_drewN | apply keep_drew | apply keep_alloc) | exact HK.out)) (KeepBut.of_below hb g none) (.inl rfl)); have n2_ := Aside0.mk (below_step (by repeat (first | (with_reducible first | exact HB.out | apply below_alloc | apply pw_below_drewN | apply below_drew1 | refine below_set ?_ (IsS161.ge HI0.out)) | exact HB.out)) hb); have n3_ := Aside0.mk (hbox); have n4_ := Aside0.mk ((by rw [hg]; exact (keep_size (w := w) (g := g) (row := none) (by repeat (first | (with_reducible first | exact HK.out | apply KeepBut.set_ | apply keep_drewN | apply keep_drew | apply keep_alloc) | exact HK.out))) : w.heap.size ≤ gb251)); have n5_ := Aside0.mk ((Nat.le_trans HW0.out (by rw [hg]; exact (keep_size (w := w) (g := g) (row := none) (by repeat (first | (with_reducible first | exact HK.out | apply KeepBut.set_ | apply keep_drewN | apply keep_drew | apply keep_alloc) | exact HK.out))) : w.heap.size ≤ gb251) : w0.heap.size ≤ gb251)); have n6_ := Aside0.mk ((by rw [hg]; exact Nat.ne_of_lt (IsS161.lt (show IsS161 w0 _ g s0_0 s0_1 from by repeat (first | (with_reducible first | exact HI0.out | apply IsS161.alloc | apply IsS161.drewN | apply IsS161.drew | apply IsS161.set_1) | exact HI0.out))) : g ≠ gb251)); have n7_ := Aside0.mk ((by rw [hg]; exact Nat.ne_of_gt (IsS161.lt (show IsS161 w0 _ g s0_0 s0_1 from by repeat (first | (with_reducible first | exact HI0.out | apply IsS161.alloc | apply IsS161.drewN | apply IsS161.drew | apply IsS161.set_1) | exact HI0.out))) : gb251 ≠ g)); clear HI0; clear HK; clear HB; have HI0 := n0_; have HK := n1_; have HB := n2_; have BK251 := n3_; have GW251 := n4_; have GE251 := n5_; have NB0_251 := n6_; have NB251_0 := n7_; clear n0_ n1_ n2_ n3_ n4_ n5_ n6_ n7_; clear hb hbox hg) | ((with_reducible refine gate_callee (f := 106) rfl ?_); refine sqL (some 5) Try.func106 #[.pointer (some ⟨g, 0, none⟩)] ?_; (with_reducible refine (spec_l11Size.calls k g s0_0 s0_1 t252 t253 w0 _ ?side1 ?side2 A2.out).mono ?_); (case side1 => repeat (first | (with_reducible first | exact HI0.out | apply IsS161.alloc | apply IsS161.drewN | apply IsS161.drew | apply IsS161.set_1 | refine IsS161.far ?_ NB0_251.out _) | exact HI0.out)); (case side2 => repeat (first | (with_reducible first | exact HB.out | apply below_alloc | apply pw_below_drewN | apply below_drew1 | refine below_set ?_ (IsS161.ge HI0.out) | refine below_set ?_ GE251.out) | exact HB.out)); rintro e w7 ⟨rfl, hi, hb, hk⟩; refine ⟨_, rfl, ?_⟩; have n0_ := Aside0.mk (KeepBut.blk hk (g' := gb251) (o := .cells #[.int .i64 0, .slice none 0 0] 41 (0, 0)) (by refine sqt ?_; exact BK251.out) NB251_0.out (by simp)); have n1_ := Aside0.mk (KeepBut.trans (by repeat (first | (with_reducible first | exact HK.out | apply KeepBut.set_ | apply keep_drewN | apply keep_drew | apply keep_alloc | refine keep_far ?_ GW251.out _) | exact HK.out)) hk (.inl rfl)); have n2_ := Aside0.mk (hb); have n3_ := Aside0.mk (hi); clear BK251; clear HK; clear HB; clear HI0; have BK251 := n0_; have HK := n1_; have HB := n2_; have HI0 := n3_; clear n0_ n1_ n2_ n3_; (try clear hb); (try clear hb2); (try clear hk); (try clear hi)) | ((with_reducible refine gate_callee (f := 107) rfl ?_); refine sqL (some 11) Try.func107 #[.pointer (some ⟨g, 0, none⟩), .int .i64 t252] ?_; (with_reducible refine (spec_l11Numbers.calls k g s0_0 t253 t252 t254 t257 w0 _ ?side1 ?side2 A3.out).mono ?_); (case side1 => repeat (first | (with_reducible first | exact HI0.out | apply IsS161.alloc | apply IsS161.drewN | apply IsS161.drew | apply IsS161.set_1 | refine IsS161.far ?_ NB0_251.out _) | exact HI0.out)); (case side2 => repeat (first | (with_reducible first | exact HB.out | apply below_alloc | apply pw_below_drewN | apply below_drew1 | refine below_set ?_ (IsS161.ge HI0.out) | refine below_set ?_ GE251.out) | exact HB.out)); rintro e w8 ⟨v255, rfl, ho0, hi, hb, hk⟩; refine ⟨_, rfl, ?_⟩; have n0_ := Aside0.mk (KeepBut.blk hk (g' := gb251) (o := .cells #[.int .i64 0, .slice none 0 0] 41 (0, 0)) (by refine sqt ?_; exact BK251.out) NB251_0.out (by simp)); have n1_ := Aside0.mk (Kd.R_lower ho0 (keep_size (w := w) (g := g) (row := none) (by repeat (first | (with_reducible first | exact HK.out | apply KeepBut.set_ | apply keep_drewN | apply keep_drew | apply keep_alloc | refine keep_far ?_ GW251.out _) | exact HK.out)))); have n2_ := Aside0.mk (KeepBut.trans (by repeat (first | (with_reducible first | exact HK.out | apply KeepBut.set_ | apply keep_drewN | apply keep_drew | apply keep_alloc | refine keep_far ?_ GW251.out _) | exact HK.out)) hk (.inl rfl)); have n3_ := Aside0.mk (hb); have n4_ := Aside0.mk (hi); clear BK251; clear HK; clear HB; clear HI0; have BK251 := n0_; have HO256 := n1_; have HK := n2_; have HB := n3_; have HI0 := n4_; clear n0_ n1_ n2_ n3_ n4_; (try clear hb); (try clear hb2); (try clear hk); (try clear hi); (try clear ho0); obtain ⟨Ao9, co9, eo9⟩ := Kd.R_slice HO256.out; subst eo9) | ((with_reducible refine gate_callee (f := 108) rfl ?_); refine sqL (some 12) Try.func108 #[.pointer (some ⟨g, 0, none⟩), .int .i64 t252, .slice Ao9 t254.length co9] ?_; (with_reducible refine (spec_l11Gaps.calls k g s0_0 t257 t252 _ _ t254 t258 t259 t262 w0 _ ?side1 ?side2 ?side3 ?side4 ?side5 A4.out).mono ?_); (case side1 => repeat (first | (with_reducible first | exact HI0.out | apply IsS161.alloc | apply IsS161.drewN | apply IsS161.drew | apply IsS161.set_1 | refine IsS161.far ?_ NB0_251.out _) | exact HI0.out)); (case side2 => repeat (first | (with_reducible first | exact HB.out | apply below_alloc | apply pw_below_drewN | apply below_drew1 | refine below_set ?_ (IsS161.ge HI0.out) | refine below_set ?_ GE251.out) | exact HB.out)); (case side3 => repeat (first | exact (Kd.R_reads' HO256.out).2.2 | (with_reducible refine Kd.C_alloc ?_ _) | (with_reducible refine Kd.C_drewN ?_ _) | (with_reducible refine Kd.C_drew ?_))); (case side4 => exact (Kd.R_reads' HO256.out).2.1); (case side5 => exact far_slice (IsS161.own_ne HI0.out HO256.out (by decide))); rintro e w10 ⟨v260, rfl, ho0, hi, hb, hk⟩; refine ⟨_, rfl, ?_⟩; have n0_ := Aside0.mk (KeepBut.blk hk (g' := gb251) (o := .cells #[.int .i64 0, .slice none 0 0] 41 (0, 0)) (by refine sqt ?_; exact BK251.out) NB251_0.out (by simp)); have n1_ := Aside0.mk (Kd.R_mono (Kd.R_told (Kd.R_oldK (IsS161.apart (show IsS161 w0 _ g s0_0 t257 from by repeat (first | (with_reducible first | exact HI0.out | apply IsS161.alloc | apply IsS161.drewN | apply IsS161.drew | apply IsS161.set_1 | refine IsS161.far ?_ NB0_251.out _) | exact HI0.out)) (by (with_reducible repeat (first | apply Kd.R_alloc | apply Kd.R_drewN | apply Kd.R_drew)); exact HO256.out) (by decide)) hk) (Kd.R_base ho0)) (fun _ h_ => h_.1)); have n2_ := Aside0.mk (Kd.R_lower (Kd.R_new' ho0 (Kd.R_lt (by (with_reducible repeat (first | apply Kd.R_alloc | apply Kd.R_drewN | apply Kd.R_drew)); exact HO256.out))) (keep_size (w := w) (g := g) (row := none) (by repeat (first | (with_reducible first | exact HK.out | apply KeepBut.set_ | apply keep_drewN | apply keep_drew | apply keep_alloc | refine keep_far ?_ GW251.out _) | exact HK.out)))); have n3_ := Aside0.mk (KeepBut.trans (by repeat (first | (with_reducible first | exact HK.out | apply KeepBut.set_ | apply keep_drewN | apply keep_drew | apply keep_alloc | refine keep_far ?_ GW251.out _) | exact HK.out)) hk (.inl rfl)); have n4_ := Aside0.mk (hb); have n5_ := Aside0.mk (hi); clear BK251; clear HO256; clear HK; clear HB; clear HI0; have BK251 := n0_; have HO256 := n1_; have HO261 := n2_; have HK := n3_; have HB := n4_; have HI0 := n5_; clear n0_ n1_ n2_ n3_ n4_ n5_; (try clear hb); (try clear hb2); (try clear hk); (try clear hi); (try clear ho0); obtain ⟨Ao11, co11, eo11⟩ := Kd.R_slice HO261.out; subst eo11) | ((with_reducible refine gate_callee (f := 110) rfl ?_); refine sqL (some 13) Try.func110 #[.pointer (some ⟨g, 0, none⟩), .agg #[.int .i64 t258, .slice Ao11 t259.length co11]] ?_; (with_reducible refine (spec_l11Spoilt.calls k g s0_0 t262 t258 (fun k_ => some k_ = (.slice Ao11 t259.length co11 : Value).ownBlock) (.slice Ao11 t259.length co11) t259 t263 t264 t267 w0 _ ?side1 ?side2 ?side3 A5.out).mono ?_); (case side1 => repeat (first | (with_reducible first | exact HI0.out | apply IsS161.alloc | apply IsS161.drewN | apply IsS161.drew | apply IsS161.set_1 | refine IsS161.far ?_ NB0_251.out _) | exact HI0.out)); (case side2 => repeat (first | (with_reducible first | exact HB.out | apply below_alloc | apply pw_below_drewN | apply below_drew1 | refine below_set ?_ (IsS161.ge HI0.out) | refine below_set ?_ GE251.out) | exact HB.out)); (case side3 => exact Kd.R_lower (Kd.R_tight rfl HO261.out) HL.out); rintro e w12 ⟨v265, rfl, ho0, hi, hb, hkp⟩; refine ⟨_, rfl, ?_⟩; have n0_ := Aside0.mk (hi); have n1_ := Aside0.mk (blk_kept (by refine sqt ?_; exact BK251.out) hkp (fun hs_ => Or.elim hs_ (fun hs_ => (fun e_ => (Kd.R_ne HO261.out BK251.out (by decide)) e_) hs_) (fun e_ => NB251_0.out e_))); have n2_ := Aside0.mk (Kd.R_mono (ok' := fun k_ => some k_ ≠ (v265 : Value).ownBlock) (Kd.R_keptB ((IsS161.apart HI0.out HO256.out (by decide))) hkp (fun k_ hk_ hs_ => Or.elim hs_ (fun hs_ => (hk_.1.2) hs_) (fun e_ => (hk_.2) e_))) (fun k_ hk_ => fun e_ => Or.elim (ho0.1 k_ e_.symm) (fun hs_ => by first | exact hk_.2.1 hs_ | exact hk_.2.1 (.inl hs_)) (fun hn_ => Nat.not_le.2 hk_.2.2 hn_))); have n3_ := Aside0.mk (Kd.R_mono (ok' := fun k_ => some k_ ≠ (.slice Ao9 t254.length co9 : Value).ownBlock) (Kd.R_raise (d := (Kd.int .i64)) (b := w0.heap.size) (b' := w.heap.size) (fun _ _ _ _ h_ => h_) ho0 (fun k_ e_ => Or.elim (ho0.1 k_ e_) (fun hs_ => (fun e_ => Kd.R_base HO261.out k_ e_.symm) hs_) (fun hn_ => Nat.le_trans (keep_size (w := w) (g := g) (row := none) (by repeat (first | (with_reducible first | exact HK.out | apply KeepBut.set_ | apply keep_drewN | apply keep_drew | apply keep_alloc | refine keep_far ?_ GW251.out _) | exact HK.out))) hn_))) (fun k_ hk_ => Or.elim hk_ (fun hs_ => fun e_ => ((((IsS161.apart HI0.out HO256.out (by decide))).1 k_ e_.symm).1.2) hs_) (fun hn_ => (Kd.fresh' (Kd.R_lt (by (with_reducible repeat (first | apply Kd.R_alloc | apply Kd.R_drewN | apply Kd.R_drew)); exact HO256.out)) k_ hn_)))); have n4_ := Aside0.mk (Kept.keepG (by repeat (first | (with_reducible first | exact HK.out | apply KeepBut.set_ | apply keep_drewN | apply keep_drew | apply keep_alloc | refine keep_far ?_ GW251.out _) | exact HK.out)) hkp (fun k_ hs_ => Or.elim hs_ (fun hs_ => (fun e_ => .inr (Kd.R_base HO261.out k_ e_.symm)) hs_) (fun e_ => .inl e_))); have n5_ := Aside0.mk (hb); clear HI0; clear BK251; clear HO256; clear HK; clear HB; clear HO261; have HI0 := n0_; have BK251 := n1_; have HO256 := n2_; have HO266 := n3_; have HK := n4_; have HB := n5_; clear n0_ n1_ n2_ n3_ n4_ n5_; (try clear hb); (try clear hkp); (try clear ho0); have hnb13 := NB251_0.out; have hnc13 := NB0_251.out; obtain ⟨hcz14_0, hcz14_1, hfz14_0, hfz14_1⟩ := sqc2 BK251; obtain ⟨Ao15, co15, eo15⟩ := Kd.R_slice HO266.out; subst eo15))
  refine bodyPost_ret (results_cell_row rfl _ _ gb251 41 #[.int .i64 t263, .slice Ao15 t264.length co15] (0, 0) _ rfl (by refine sqt ?_; refine blk_put (cs := #[.int .i64 t263, .slice none 0 0]) ?_ 1 _ rfl; refine sqt ?_; refine blk_put (cs := #[.int .i64 0, .slice none 0 0]) ?_ 0 _ rfl; refine sqt ?_; exact BK251.out) Try.underlying41 rfl (by kernel_rfl)) rfl ?_
  exact ⟨_, by first | rfl | (simp [errW_none, errW_some] <;> rfl) | (simp [*, errW_none, errW_some] <;> rfl), by (with_reducible repeat (first | apply Kd.R_alloc | apply Kd.R_drewN | apply Kd.R_drew)); exact Kd.R_mono (Kd.R_far (p := ⟨gb251, 1, none⟩) (Kd.R_far (p := ⟨gb251, 0, none⟩) (Kd.R_types HO266.out BK251.out (by decide)) (fun _ hk => hk.2) (.int .i64 t263)) (fun _ hk => hk.2) (.slice Ao15 t264.length co15)) (fun _ hk => trivial), by repeat (first | (with_reducible first | exact HI0.out | apply IsS161.alloc | apply IsS161.drewN | apply IsS161.drew | apply IsS161.set_1 | refine IsS161.far ?_ NB0_251.out _) | exact HI0.out), by repeat (first | (with_reducible first | exact HB.out | apply below_alloc | apply pw_below_drewN | apply below_drew1 | refine below_set ?_ (IsS161.ge HI0.out) | refine below_set ?_ GE251.out) | exact HB.out), by repeat (first | (with_reducible first | exact HK.out | apply KeepBut.set_ | apply keep_drewN | apply keep_drew | apply keep_alloc | refine keep_far ?_ GW251.out _) | exact HK.out)⟩

/-! ### spec_DrawGapsClose: function 32 -/
theorem spec_DrawGapsClose.mono : ∀ a0 k, LeO (spec_DrawGapsClose.f k a0) (spec_DrawGapsClose.f (k + 1) a0) := by
  intro a0 k
  unfold spec_DrawGapsClose.f
  repeat' first
      | (with_reducible exact spec_l11One.mono _ _ _)
      | (with_reducible exact LeO.refl _)
      | (with_reducible exact LeO.none _)
      | (with_reducible refine LeO.ite ?_ ?_)
      | (with_reducible refine LeO.bind ?_ (fun _ => ?_))
      | exact spec_l11One.mono _ _ _
      | exact LeO.none _
      | refine LeO.ite ?_ ?_
      | refine LeO.bind ?_ (fun _ => ?_)
set_option maxHeartbeats 8000000 in
set_option maxRecDepth 100000 in
theorem spec_DrawGapsClose.calls (k : Nat) (A0 : Option Addr) (c0 : Nat) (l0 : List Int) (r1 : Int) (r2 : List Int) (w : World) (hr0 : Kd.C (Kd.int .u8) w A0 l0.length l0) (hc0 : l0.length ≤ c0) (h : spec_DrawGapsClose.f k l0 = some (r1, r2)) :
    Calls Try.prog 32 #[.slice A0 l0.length c0] w fun e w' => ∃ v1_ : Value, e = .returned (.agg #[.int .i64 r1, v1_]) ∧ Kd.R (Kd.int .i64) 3 w' w.heap.size (fun _ => True) v1_ r2 ∧ Below w.heap.size w w' := by
  have hu41 := Try.underlying41
  have HR0 := Aside0.mk hr0
  have HC0 := Aside0.mk hc0
  clear hr0 hc0
  have HB := Aside0.mk (Below.refl w.heap.size w)
  have H : ((spec_l1Open.f l0).bind fun bt269 => ((spec_l11One.f k bt269.1 bt269.2).bind fun bt272 => (some (bt272.1, bt272.2.1)))) = some (r1, r2) := h
  clear h
  replace H := Option.bind_eq_some_iff.mp H
  obtain ⟨⟨t269, t270⟩, A20, H⟩ := H
  replace H : ((spec_l11One.f k t269 t270).bind fun bt272 => (some (bt272.1, bt272.2.1))) = some (r1, r2) := H
  have A2 := Aside0.mk A20
  clear A20
  replace H := Option.bind_eq_some_iff.mp H
  obtain ⟨⟨t272, t273, t276⟩, A30, H⟩ := H
  replace H : (some (t272, t273)) = some (r1, r2) := H
  have A3 := Aside0.mk A30
  clear A30
  simp only [Option.some.injEq, Prod.mk.injEq] at H
  obtain ⟨rfl, rfl⟩ := H
  go_enter Try.func32, Try.ntmps32
  go_wp2_with (first | ((with_reducible refine gate_dst (N := 2) rfl ?_); refine sqx 2 #[.int .i64 0, .slice none 0 0] 41 ?_; intro gb268 hg w4 hbox hb; have BK268 := Aside0.mk (hbox); have GW268 := sqg HB hg; have GE268 := sqg HB hg; replace HB := sqs HB hb; clear hb hbox hg) | ((with_reducible refine gate_callee (f := 92) rfl ?_); refine sqL (some 5) Try.func92 #[.slice A0 l0.length c0] ?_; (with_reducible refine (spec_l1Open.calls _ _ l0 t269 t270 w _ ?side1 ?side2 ?side3 A2.out).mono ?_); (case side1 => repeat (first | (with_reducible first | exact HB.out | apply below_alloc | apply pw_below_drewN | apply below_drew1 | refine below_set ?_ GE268.out) | exact HB.out)); (case side2 => exact HR0.out); (case side3 => exact HC0.out); rintro e w5 ⟨g271, rfl, hi, hb, hb2⟩; refine ⟨_, rfl, ?_⟩; have n0_ := Aside0.mk (blk_below (g := gb268) (o := .cells #[.int .i64 0, .slice none 0 0] 41 (0, 0)) (by refine sqt ?_; exact BK268.out) hb2); have n1_ := Aside0.mk (hb); have n2_ := Aside0.mk (hi); have n3_ := Aside0.mk (IsS161.ne_blk hi (blk_below (g := gb268) (o := .cells #[.int .i64 0, .slice none 0 0] 41 (0, 0)) (by refine sqt ?_; exact BK268.out) hb2) (by decide)); have n4_ := Aside0.mk (Ne.symm (IsS161.ne_blk hi (blk_below (g := gb268) (o := .cells #[.int .i64 0, .slice none 0 0] 41 (0, 0)) (by refine sqt ?_; exact BK268.out) hb2) (by decide))); clear BK268; clear HB; have BK268 := n0_; have HB := n1_; have HI271 := n2_; have NB271_268 := n3_; have NB268_271 := n4_; clear n0_ n1_ n2_ n3_ n4_; (try clear hb); (try clear hb2); (try clear hk); (try clear hi)) | ((with_reducible refine gate_callee (f := 120) rfl ?_); refine sqL (some 7) Try.func120 #[.pointer (some ⟨g271, 0, none⟩)] ?_; (with_reducible refine (spec_l11One.calls k g271 t269 t270 t272 t273 t276 w _ ?side1 ?side2 A3.out).mono ?_); (case side1 => repeat (first | (with_reducible first | exact HI271.out | apply IsS161.alloc | apply IsS161.drewN | apply IsS161.drew | apply IsS161.set_1 | refine IsS161.far ?_ NB271_268.out _) | exact HI271.out)); (case side2 => repeat (first | (with_reducible first | exact HB.out | apply below_alloc | apply pw_below_drewN | apply below_drew1 | refine below_set ?_ (IsS161.ge HI271.out) | refine below_set ?_ GE268.out) | exact HB.out)); rintro e w6 ⟨v274, rfl, ho0, hi, hb, hk⟩; refine ⟨_, rfl, ?_⟩; have n0_ := Aside0.mk (KeepBut.blk hk (g' := gb268) (o := .cells #[.int .i64 0, .slice none 0 0] 41 (0, 0)) (by refine sqt ?_; exact BK268.out) NB268_271.out (by simp)); have n1_ := Aside0.mk (Kd.R_lower ho0 (below_size (by repeat (first | (with_reducible first | exact HB.out | apply below_alloc | apply pw_below_drewN | apply below_drew1 | refine below_set ?_ (IsS161.ge HI271.out) | refine below_set ?_ GE268.out) | exact HB.out)))); have n2_ := Aside0.mk (hb); have n3_ := Aside0.mk (hi); clear BK268; clear HB; clear HI271; have BK268 := n0_; have HO275 := n1_; have HB := n2_; have HI271 := n3_; clear n0_ n1_ n2_ n3_; (try clear hb); (try clear hb2); (try clear hk); (try clear hi); (try clear ho0); have hnb7 := NB268_271.out; have hnc7 := NB271_268.out; obtain ⟨hcz8_0, hcz8_1, hfz8_0, hfz8_1⟩ := sqc2 BK268; obtain ⟨Ao9, co9, eo9⟩ := Kd.R_slice HO275.out; subst eo9))
  refine bodyPost_ret (results_cell_row rfl _ _ gb268 41 #[.int .i64 t272, .slice Ao9 t273.length co9] (0, 0) _ rfl (by refine sqt ?_; refine blk_put (cs := #[.int .i64 t272, .slice none 0 0]) ?_ 1 _ rfl; refine sqt ?_; refine blk_put (cs := #[.int .i64 0, .slice none 0 0]) ?_ 0 _ rfl; refine sqt ?_; exact BK268.out) Try.underlying41 rfl (by kernel_rfl)) rfl ?_
  exact ⟨_, by first | rfl | (simp [errW_none, errW_some] <;> rfl) | (simp [*, errW_none, errW_some] <;> rfl), by (with_reducible repeat (first | apply Kd.R_alloc | apply Kd.R_drewN | apply Kd.R_drew)); exact Kd.R_mono (Kd.R_far (p := ⟨gb268, 1, none⟩) (Kd.R_far (p := ⟨gb268, 0, none⟩) (Kd.R_types HO275.out BK268.out (by decide)) (fun _ hk => hk.2) (.int .i64 t272)) (fun _ hk => hk.2) (.slice Ao9 t273.length co9)) (fun _ hk => trivial), by repeat (first | (with_reducible first | exact HB.out | apply below_alloc | apply pw_below_drewN | apply below_drew1 | refine below_set ?_ (IsS161.ge HI271.out) | refine below_set ?_ GE268.out) | exact HB.out)⟩

/-! ### laws_at: function 33 -/
set_option maxHeartbeats 8000000 in
set_option maxRecDepth 100000 in
theorem laws_at.calls (A0 : Option Addr) (c0 : Nat) (l0 : List Int) (a1 : Int) (r : Int) (w : World) (hr0 : Kd.C (Kd.int .u8) w A0 l0.length l0) (hc0 : l0.length ≤ c0) (h : laws_at.f l0 a1 = some r) :
    Calls Try.prog 33 #[.slice A0 l0.length c0, .int .i64 a1] w fun e w' => e = .returned (.int .u8 r) ∧ Drawn0 w w' := by
  have HR0 := Aside0.mk hr0
  have HC0 := Aside0.mk hc0
  clear hr0 hc0
  have H : (if (l0.length : Int) = 0 then (some ((wrap64 (a1 * 37)) % 256)) else (if a1 < (l0.length : Int) then (if 0 ≤ a1 then (some (rd l0 a1)) else (none)) else (if 0 ≤ (Int.tmod a1 (l0.length : Int)) then (if (Int.tmod a1 (l0.length : Int)) < (l0.length : Int) then (if 0 ≤ (Int.tmod (wrap64 ((wrap64 (a1 * 5)) + 1)) (l0.length : Int)) then (if (Int.tmod (wrap64 ((wrap64 (a1 * 5)) + 1)) (l0.length : Int)) < (l0.length : Int) then (some (((((((rd l0 (Int.tmod a1 (l0.length : Int))) * 31) % 256) + (rd l0 (Int.tmod (wrap64 ((wrap64 (a1 * 5)) + 1)) (l0.length : Int)))) % 256) + ((a1) % 256)) % 256)) else (none)) else (none)) else (none)) else (none)))) = some r := h
  clear h
  by_cases c3 : (l0.length : Int) = 0
  · rw [if_pos c3] at H
    have c3b0 : ((l0.length : Int) == 0) = true := beq_iff_eq.mpr c3
    have c3b1 : ((l0.length : Int) != 0) = false := bne_eq_false_iff_eq.mpr c3
    clear c3
    obtain rfl := Option.some.inj H
    go_enter Try.func33, Try.ntmps33
    go_wp2
    repeat (go_quiet (fail); try go_wp2)
    go_ret
    exact ⟨by first | rfl | (simp; done) | (simp [*]; done), by repeat (first | exact Drawn0.refl _ | apply Drawn0.step)⟩
  · rw [if_neg c3] at H
    have c3b0 : ((l0.length : Int) == 0) = false := beq_eq_false_iff_ne.mpr c3
    have c3b1 : ((l0.length : Int) != 0) = true := bne_iff_ne.mpr c3
    have c3b2 : ¬ (l0 = []) := fun h_ => c3 (by rw [h_]; rfl)
    by_cases c4 : a1 < (l0.length : Int)
    · rw [if_pos c4] at H
      have c4b0 : decide (a1 < (l0.length : Int)) = true := decide_eq_true c4
      clear c4
      by_cases c5 : 0 ≤ a1
      · rw [if_pos c5] at H
        have c5b0 : decide (0 ≤ a1) = true := decide_eq_true c5
        clear c5
        obtain rfl := Option.some.inj H
        have p277 : 0 ≤ (a1 : Int) := of_decide_eq_true (by first | (with_reducible assumption) | assumption)
        have q277 : a1 < (l0.length : Int) := of_decide_eq_true (by first | (with_reducible assumption) | assumption)
        obtain ⟨ad277, e277, hx277_0⟩ := Kd.at_int HR0.out a1 p277 q277
        cases e277
        replace p277 := eq_true p277
        replace q277 := eq_true q277
        go_enter Try.func33, Try.ntmps33
        go_wp2
        repeat (go_quiet (fail); try go_wp2)
        go_ret
        exact ⟨by first | rfl | (simp; done) | (simp [*]; done), by repeat (first | exact Drawn0.refl _ | apply Drawn0.step)⟩
      · rw [if_neg c5] at H
        exact absurd H (by simp)
    · rw [if_neg c4] at H
      have c4b0 : decide (a1 < (l0.length : Int)) = false := decide_eq_false c4
      clear c4
      obtain ⟨ji6, hji6⟩ : ∃ j_ : Int, (Int.tmod a1 (l0.length : Int)) = j_ := ⟨_, rfl⟩
      replace H : (if 0 ≤ (ji6) then (if (ji6) < (l0.length : Int) then (if 0 ≤ (Int.tmod (wrap64 ((wrap64 (a1 * 5)) + 1)) (l0.length : Int)) then (if (Int.tmod (wrap64 ((wrap64 (a1 * 5)) + 1)) (l0.length : Int)) < (l0.length : Int) then (some (((((((rd l0 (ji6)) * 31) % 256) + (rd l0 (Int.tmod (wrap64 ((wrap64 (a1 * 5)) + 1)) (l0.length : Int)))) % 256) + ((a1) % 256)) % 256)) else (none)) else (none)) else (none)) else (none)) = some r := by first | (rw [hji6] at H; exact H) | (simp only [hji6] at H ⊢; exact H)
      by_cases c7 : 0 ≤ (ji6)
      · rw [if_pos c7] at H
        have c7b0 : decide (0 ≤ (ji6)) = true := decide_eq_true c7
        clear c7
        by_cases c8 : (ji6) < (l0.length : Int)
        · rw [if_pos c8] at H
          have c8b0 : decide ((ji6) < (l0.length : Int)) = true := decide_eq_true c8
          clear c8
          obtain ⟨ji9, hji9⟩ : ∃ j_ : Int, (Int.tmod (wrap64 ((wrap64 (a1 * 5)) + 1)) (l0.length : Int)) = j_ := ⟨_, rfl⟩
          replace H : (if 0 ≤ (ji9) then (if (ji9) < (l0.length : Int) then (some (((((((rd l0 (ji6)) * 31) % 256) + (rd l0 (ji9))) % 256) + ((a1) % 256)) % 256)) else (none)) else (none)) = some r := by first | (rw [hji9] at H; exact H) | (simp only [hji9] at H ⊢; exact H)
          by_cases c10 : 0 ≤ (ji9)
          · rw [if_pos c10] at H
            have c10b0 : decide (0 ≤ (ji9)) = true := decide_eq_true c10
            clear c10
            by_cases c11 : (ji9) < (l0.length : Int)
            · rw [if_pos c11] at H
              have c11b0 : decide ((ji9) < (l0.length : Int)) = true := decide_eq_true c11
              clear c11
              obtain rfl := Option.some.inj H
              have p278 : 0 ≤ ((ji6) : Int) := of_decide_eq_true (by first | (with_reducible assumption) | assumption)
              have q278 : (ji6) < (l0.length : Int) := of_decide_eq_true (by first | (with_reducible assumption) | assumption)
              obtain ⟨ad278, e278, hx278_0⟩ := Kd.at_int HR0.out (ji6) p278 q278
              cases e278
              replace p278 := eq_true p278
              replace q278 := eq_true q278
              have p279 : 0 ≤ ((ji9) : Int) := of_decide_eq_true (by first | (with_reducible assumption) | assumption)
              have q279 : (ji9) < (l0.length : Int) := of_decide_eq_true (by first | (with_reducible assumption) | assumption)
              obtain ⟨ad279, e279, hx279_0⟩ := Kd.at_int HR0.out (ji9) p279 q279
              obtain rfl : ad278 = ad279 := (by injection e279)
              replace p279 := eq_true p279
              replace q279 := eq_true q279
              go_enter Try.func33, Try.ntmps33
              go_wp2
              repeat (go_quiet (fail); try go_wp2)
              go_ret
              exact ⟨by first | rfl | (simp; done) | (simp only [← hji6, ← hji9] <;> (first | rfl | simp)) | (simp [*]; done), by repeat (first | exact Drawn0.refl _ | apply Drawn0.step)⟩
            · rw [if_neg c11] at H
              exact absurd H (by simp)
          · rw [if_neg c10] at H
            exact absurd H (by simp)
        · rw [if_neg c8] at H
          exact absurd H (by simp)
      · rw [if_neg c7] at H
        exact absurd H (by simp)

/-! ### impl_GapsForget: function 49 -/
theorem impl_GapsForget.mono_l : ∀ k, (∀ y0 y1 y2 y3, LeO (impl_GapsForget.j0 k y0 y1 y2 y3) (impl_GapsForget.j0 (k + 1) y0 y1 y2 y3)) ∧ (∀ y0 y1 y2 y3 y4 y5 y6, LeO (impl_GapsForget.l0 k y0 y1 y2 y3 y4 y5 y6) (impl_GapsForget.l0 (k + 1) y0 y1 y2 y3 y4 y5 y6))
  | 0 => ⟨fun _ _ _ _ r h => by simp [impl_GapsForget.j0] at h, fun _ _ _ _ _ _ _ r h => by simp [impl_GapsForget.l0] at h⟩
  | k + 1 => by
    obtain ⟨ih0, ih1⟩ := impl_GapsForget.mono_l k
    refine ⟨?_, ?_⟩
    · intro y0 y1 y2 y3
      unfold impl_GapsForget.j0
      repeat' first
      | (with_reducible exact ih0 _ _ _ _)
      | (with_reducible exact ih1 _ _ _ _ _ _ _)
      | (with_reducible exact impl_GapsOk.mono _ _ _)
      | (with_reducible exact LeO.refl _)
      | (with_reducible exact LeO.none _)
      | (with_reducible refine LeO.ite ?_ ?_)
      | (with_reducible refine LeO.bind ?_ (fun _ => ?_))
      | exact ih0 _ _ _ _
      | exact ih1 _ _ _ _ _ _ _
      | exact impl_GapsOk.mono _ _ _
      | exact LeO.none _
      | refine LeO.ite ?_ ?_
      | refine LeO.bind ?_ (fun _ => ?_)
    · intro y0 y1 y2 y3 y4 y5 y6
      unfold impl_GapsForget.l0
      repeat' first
      | (with_reducible exact ih0 _ _ _ _)
      | (with_reducible exact ih1 _ _ _ _ _ _ _)
      | (with_reducible exact impl_GapsOk.mono _ _ _)
      | (with_reducible exact LeO.refl _)
      | (with_reducible exact LeO.none _)
      | (with_reducible refine LeO.ite ?_ ?_)
      | (with_reducible refine LeO.bind ?_ (fun _ => ?_))
      | exact ih0 _ _ _ _
      | exact ih1 _ _ _ _ _ _ _
      | exact impl_GapsOk.mono _ _ _
      | exact LeO.none _
      | refine LeO.ite ?_ ?_
      | refine LeO.bind ?_ (fun _ => ?_)
theorem impl_GapsForget.mono : ∀ a0 a1 a2 k, LeO (impl_GapsForget.f k a0 a1 a2) (impl_GapsForget.f (k + 1) a0 a1 a2) := by
  intro a0 a1 a2 k
  obtain ⟨ih0, ih1⟩ := impl_GapsForget.mono_l k
  unfold impl_GapsForget.f
  repeat' first
      | (with_reducible exact ih0 _ _ _ _)
      | (with_reducible exact ih1 _ _ _ _ _ _ _)
      | (with_reducible exact impl_GapsOk.mono _ _ _)
      | (with_reducible exact LeO.refl _)
      | (with_reducible exact LeO.none _)
      | (with_reducible refine LeO.ite ?_ ?_)
      | (with_reducible refine LeO.bind ?_ (fun _ => ?_))
      | exact ih0 _ _ _ _
      | exact ih1 _ _ _ _ _ _ _
      | exact impl_GapsOk.mono _ _ _
      | exact LeO.none _
      | refine LeO.ite ?_ ?_
      | refine LeO.bind ?_ (fun _ => ?_)
def impl_GapsForget.T8 : Bool × List (List Nat × List Nat) := (true, [([], []), ([0], [0]), ([], []), ([], []), ([], []), ([2, 3, 4], [2, 3, 4]), ([1, 5, 0, 1, 2, 3, 4, 5], [1, 5]), ([6, 5, 0, 1, 2, 3, 4, 5], [6])])
def impl_GapsForget.B8 : List Nat := [0, 1, 0, 0, 0, 28, 63, 127]
theorem impl_GapsForget.tab8 : rtab .any (opsOf Try.f49 8) = impl_GapsForget.T8 := by kernel_rfl
theorem impl_GapsForget.bits8 : waitsOk impl_GapsForget.T8.2 impl_GapsForget.B8 = true := by kernel_rfl
def impl_GapsForget.T9 : Bool × List (List Nat × List Nat) := (true, [([], []), ([0], [0]), ([], []), ([], []), ([], []), ([2, 3, 4], [2, 3, 4]), ([1, 5, 0, 1, 2, 3, 4, 5], [1, 5]), ([6, 5, 0, 1, 2, 3, 4, 5], [6])])
def impl_GapsForget.B9 : List Nat := [0, 1, 0, 0, 0, 28, 63, 127]
theorem impl_GapsForget.tab9 : rtab .any (opsOf Try.f49 9) = impl_GapsForget.T9 := by kernel_rfl
theorem impl_GapsForget.bits9 : waitsOk impl_GapsForget.T9.2 impl_GapsForget.B9 = true := by kernel_rfl
set_option maxHeartbeats 8000000 in
set_option maxRecDepth 100000 in
theorem impl_GapsForget.calls (k : Nat) (a0_0 : Int) (A0_1 : Option Addr) (c0_1 : Nat) (l0_1 : List Int) (a1 : Int) (r1 : Int) (r2 : List Int) (w : World) (hr0_1 : Kd.C (Kd.int .i64) w A0_1 l0_1.length l0_1) (hc0_1 : l0_1.length ≤ c0_1) (h : impl_GapsForget.f k a0_0 l0_1 a1 = some (r1, r2)) :
    Calls Try.prog 49 #[.agg #[.int .i64 a0_0, .slice A0_1 l0_1.length c0_1], .int .i64 a1] w fun e w' => ∃ v1_ : Value, e = .returned (.agg #[.int .i64 r1, v1_]) ∧ Kd.R (Kd.int .i64) 3 w' w.heap.size (fun _ => True) v1_ r2 ∧ Below w.heap.size w w' := by
  have hu41 := Try.underlying41
  have HR0_1 := Aside0.mk hr0_1
  have HC0_1 := Aside0.mk hc0_1
  clear hr0_1 hc0_1
  have HB := Aside0.mk (Below.refl w.heap.size w)
  have H : ((impl_GapsOk.f k a0_0 l0_1).bind fun t282 => (if t282 = true then (if a1 < 1 then (impl_GapsForget.j0 k a1 true a0_0 l0_1) else (impl_GapsForget.j0 k a1 (decide (a1 > a0_0)) a0_0 l0_1)) else (impl_GapsForget.j0 k a1 true a0_0 l0_1))) = some (r1, r2) := h
  clear h
  have HC3 := Aside0.mk H
  clear H
  go_enter Try.func49, Try.ntmps49
  go_upto_region 1 with (first | ((with_reducible refine gate_dst (N := 2) rfl ?_); refine sqx 2 #[.int .i64 a0_0, .slice A0_1 l0_1.length c0_1] 41 ?_; intro gb280 hg w4 hbox hb; have BK280 := Aside0.mk (hbox); have GW280 := sqg HB hg; have GE280 := sqg HB hg; replace HB := sqs HB hb; clear hb hbox hg) | ((with_reducible refine gate_dst (N := 4) rfl ?_); refine sqx 4 #[.int .i64 0, .slice none 0 0] 41 ?_; intro gb281 hg w5 hbox hb; have BK281 := Aside0.mk (hbox); have GW281 := sqg HB hg; have GE281 := sqg HB hg; have NB280_281 := sqn BK280 hg; have NB281_280 := sqm BK280 hg; replace BK280 := sqb BK280 hb; replace HB := sqs HB hb; clear hb hbox hg))
  (try simp only [Act.put, List.setIfInBounds_toArray, List.set_cons_zero, List.set_cons_succ])
  go_cut [19] (fun v19 wc => ∃ (kq : Nat) (x19_2 : Bool), v19 = .bool x19_2 ∧ Aside0 (impl_GapsForget.j0 kq a1 x19_2 a0_0 l0_1 = some (r1, r2)) ∧ Aside0 (kq ≤ k) ∧ Aside0 (wc.heap[gb280]? = some (.cells #[.int .i64 a0_0, (.slice A0_1 l0_1.length c0_1)] 41 (0, 0))) ∧ Aside0 (wc.heap[gb281]? = some (.cells #[.int .i64 0, (.slice none 0 0)] 41 (0, 0))) ∧ Aside0 (Below w.heap.size w wc))
  case first =>
    have H := HC3.out
    clear HC3
    replace H := Option.bind_eq_some_iff.mp H
    obtain ⟨t282, A60, H⟩ := H
    replace H : (if t282 = true then (if a1 < 1 then (impl_GapsForget.j0 k a1 true a0_0 l0_1) else (impl_GapsForget.j0 k a1 (decide (a1 > a0_0)) a0_0 l0_1)) else (impl_GapsForget.j0 k a1 true a0_0 l0_1)) = some (r1, r2) := H
    have A6 := Aside0.mk A60
    clear A60
    by_cases c7 : t282 = true
    · subst c7
      have H1 : (if a1 < 1 then (impl_GapsForget.j0 k a1 true a0_0 l0_1) else (impl_GapsForget.j0 k a1 (decide (a1 > a0_0)) a0_0 l0_1)) = some (r1, r2) := by rw [if_pos rfl] at H; exact H
      clear H
      have H := H1
      clear H1
      by_cases c8 : a1 < 1
      · rw [if_pos c8] at H
        have c8b0 : decide (a1 < 1) = true := decide_eq_true c8
        clear c8
        (first | rw [c8b0] | (simp only [i64_w, i32_w]; rw [c8b0]) | skip)
        have H' := Aside0.mk H
        clear H
        have hnb9 := NB280_281.out
        have hnc9 := NB281_280.out
        obtain ⟨hcz10_0, hcz10_1, hfz10_0, hfz10_1⟩ := sqc2 BK280
        go_wp2_with (first | ((with_reducible refine gate_callee (f := 31) rfl ?_); refine sqL (some 8) Try.func31 #[.agg #[.int .i64 a0_0, .slice A0_1 l0_1.length c0_1]] ?_; (with_reducible refine (impl_GapsOk.calls k a0_0 _ _ l0_1 true _ ?side1 ?side2 A6.out).mono ?_); (case side1 => repeat (first | exact (Kd.C_below HR0_1.out HB.out) | (with_reducible refine Kd.C_alloc ?_ _) | (with_reducible refine Kd.C_drewN ?_ _) | (with_reducible refine Kd.C_drew ?_))); (case side2 => exact HC0_1.out); rintro e w11 ⟨rfl, hb⟩; refine ⟨_, rfl, ?_⟩; replace BK280 := sqb BK280 hb; replace BK281 := sqb BK281 hb; replace HB := sqs HB hb; (try clear hb)))
        go_meet
        case rel => exact ⟨_, (true), (by first | rfl | (simp; done) | (simp [*]; done)), H', ⟨by first | omega | exact Nat.le_refl _⟩, sqk BK280, sqk BK281, sqh HB⟩
      · rw [if_neg c8] at H
        have c8b0 : decide (a1 < 1) = false := decide_eq_false c8
        clear c8
        (first | rw [c8b0] | (simp only [i64_w, i32_w]; rw [c8b0]) | skip)
        have H' := Aside0.mk H
        clear H
        have hnb12 := NB280_281.out
        have hnc12 := NB281_280.out
        obtain ⟨hcz13_0, hcz13_1, hfz13_0, hfz13_1⟩ := sqc2 BK280
        go_wp2_with (first | ((with_reducible refine gate_callee (f := 31) rfl ?_); refine sqL (some 8) Try.func31 #[.agg #[.int .i64 a0_0, .slice A0_1 l0_1.length c0_1]] ?_; (with_reducible refine (impl_GapsOk.calls k a0_0 _ _ l0_1 true _ ?side1 ?side2 A6.out).mono ?_); (case side1 => repeat (first | exact (Kd.C_below HR0_1.out HB.out) | (with_reducible refine Kd.C_alloc ?_ _) | (with_reducible refine Kd.C_drewN ?_ _) | (with_reducible refine Kd.C_drew ?_))); (case side2 => exact HC0_1.out); rintro e w14 ⟨rfl, hb⟩; refine ⟨_, rfl, ?_⟩; replace BK280 := sqb BK280 hb; replace BK281 := sqb BK281 hb; replace HB := sqs HB hb; (try clear hb); obtain ⟨hcz15_0, hcz15_1, hfz15_0, hfz15_1⟩ := sqc2 BK280))
        go_meet
        case rel => exact ⟨_, (decide (a1 > a0_0)), (by first | rfl | (simp; done) | (simp [*]; done)), H', ⟨by first | omega | exact Nat.le_refl _⟩, sqk BK280, sqk BK281, sqh HB⟩
    · replace c7 := Bool.eq_false_iff.mpr c7
      subst c7
      have H1 : (impl_GapsForget.j0 k a1 true a0_0 l0_1) = some (r1, r2) := by rw [if_neg (show ¬ (false = true) by decide)] at H; exact H
      clear H
      have H := H1
      clear H1
      have H' := Aside0.mk H
      clear H
      have hnb16 := NB280_281.out
      have hnc16 := NB281_280.out
      obtain ⟨hcz17_0, hcz17_1, hfz17_0, hfz17_1⟩ := sqc2 BK280
      go_wp2_with (first | ((with_reducible refine gate_callee (f := 31) rfl ?_); refine sqL (some 8) Try.func31 #[.agg #[.int .i64 a0_0, .slice A0_1 l0_1.length c0_1]] ?_; (with_reducible refine (impl_GapsOk.calls k a0_0 _ _ l0_1 false _ ?side1 ?side2 A6.out).mono ?_); (case side1 => repeat (first | exact (Kd.C_below HR0_1.out HB.out) | (with_reducible refine Kd.C_alloc ?_ _) | (with_reducible refine Kd.C_drewN ?_ _) | (with_reducible refine Kd.C_drew ?_))); (case side2 => exact HC0_1.out); rintro e w18 ⟨rfl, hb⟩; refine ⟨_, rfl, ?_⟩; replace BK280 := sqb BK280 hb; replace BK281 := sqb BK281 hb; replace HB := sqs HB hb; (try clear hb)))
      go_meet
      case rel => exact ⟨_, (true), (by first | rfl | (simp; done) | (simp [*]; done)), H', ⟨by first | omega | exact Nat.le_refl _⟩, sqk BK280, sqk BK281, sqh HB⟩
  case rest =>
    clear HC3
    obtain ⟨kq, x19_2, rfl, HA, HJ2, BK280, BK281, HB⟩ := hcut
    cases kq with
    | zero => exact absurd HA.out (by simp [impl_GapsForget.j0])
    | succ kj2 =>
      have H := HA.out
      clear HA
      simp only [impl_GapsForget.j0] at H
      by_cases c19 : x19_2 = true
      · subst c19
        have H1 : (some (0, ([] : List Int))) = some (r1, r2) := by rw [if_pos rfl] at H; exact H
        clear H
        have H := H1
        clear H1
        simp only [Option.some.injEq, Prod.mk.injEq] at H
        obtain ⟨rfl, rfl⟩ := H
        have hnb20 := NB281_280.out
        have hnc20 := NB280_281.out
        obtain ⟨hcz21_0, hcz21_1, hfz21_0, hfz21_1⟩ := sqc2 BK281
        go_wp2
        refine bodyPost_ret (results_cell_row rfl _ _ gb281 41 #[.int .i64 0, .slice none 0 0] (0, 0) _ rfl (by refine sqt ?_; refine blk_put (cs := #[.int .i64 0, .slice none 0 0]) ?_ 1 _ rfl; refine sqt ?_; refine blk_put (cs := #[.int .i64 0, .slice none 0 0]) ?_ 0 _ rfl; refine sqt ?_; exact BK281.out) Try.underlying41 rfl (by kernel_rfl)) rfl ?_
        exact ⟨_, by first | rfl | (simp [errW_none, errW_some] <;> rfl) | (simp [*, errW_none, errW_some] <;> rfl), by first | exact Kd.R_nil _ _ _ _ _ | exact Kd.N_nil _ _ _ _ _ | exact Kd.V_nil _ _ _ _ _ | exact Kd.Q_nil _ _ _ _ _ | exact Kd.S_nil _ _ _ _ _, by repeat (first | (with_reducible first | exact HB.out | apply below_alloc | apply pw_below_drewN | apply below_drew1 | refine below_set ?_ GE280.out | refine below_set ?_ GE281.out) | exact HB.out)⟩
      · replace c19 := Bool.eq_false_iff.mpr c19
        subst c19
        have H1 : ((impl_Gaps_clone.f a0_0 l0_1).bind fun bt283 => (impl_GapsForget.l0 kj2 a1 (wrap64 (a0_0 + 1)) 0 a0_0 l0_1 bt283.1 bt283.2)) = some (r1, r2) := by rw [if_neg (show ¬ (false = true) by decide)] at H; exact H
        clear H
        have H := H1
        clear H1
        replace H := Option.bind_eq_some_iff.mp H
        obtain ⟨⟨t283, t284⟩, A220, H⟩ := H
        replace H : (impl_GapsForget.l0 kj2 a1 (wrap64 (a0_0 + 1)) 0 a0_0 l0_1 t283 t284) = some (r1, r2) := H
        have A22 := Aside0.mk A220
        clear A220
        have H' := Aside0.mk H
        clear H
        have hnb23 := NB280_281.out
        have hnc23 := NB281_280.out
        obtain ⟨hcz24_0, hcz24_1, hfz24_0, hfz24_1⟩ := sqc2 BK280
        go_wp2_with (first | ((with_reducible refine gate_callee (f := 111) rfl ?_); refine sqL (some 22) Try.func111 #[.agg #[.int .i64 a0_0, .slice A0_1 l0_1.length c0_1]] ?_; (with_reducible refine (impl_Gaps_clone.calls a0_0 _ _ l0_1 t283 t284 _ ?side1 ?side2 A22.out).mono ?_); (case side1 => repeat (first | exact (Kd.C_below HR0_1.out HB.out) | (with_reducible refine Kd.C_alloc ?_ _) | (with_reducible refine Kd.C_drewN ?_ _) | (with_reducible refine Kd.C_drew ?_))); (case side2 => exact HC0_1.out); rintro e w25 ⟨v285, rfl, ho0, hb⟩; refine ⟨_, rfl, ?_⟩; have HO286 := Aside0.mk (Kd.R_lower ho0 (below_size (by repeat (first | (with_reducible first | exact HB.out | apply below_alloc | apply pw_below_drewN | apply below_drew1 | refine below_set ?_ GE280.out | refine below_set ?_ GE281.out) | exact HB.out)))); replace BK280 := sqb BK280 hb; replace BK281 := sqb BK281 hb; replace HB := sqs HB hb; (try clear hb); (try clear hb2); (try clear hk); (try clear hi); (try clear ho0)) | ((with_reducible refine gate_dst (N := 5) rfl ?_); refine sqx 5 #[.int .i64 0, .slice none 0 0] 41 ?_; intro gb287 hg w26 hbox hb; have n0_ := Aside0.mk (Kd.R_below (by (with_reducible repeat (first | apply Kd.R_alloc | apply Kd.R_drewN | apply Kd.R_drew)); exact HO286.out) hb); have n1_ := sqb BK280 hb; have n2_ := sqb BK281 hb; have n3_ := sqs HB hb; have n4_ := Aside0.mk (hbox); have n5_ := sqg HB hg; have n6_ := sqg HB hg; have n7_ := sqn BK280 hg; have n8_ := sqm BK280 hg; have n9_ := sqn BK281 hg; have n10_ := sqm BK281 hg; clear HO286; clear BK280; clear BK281; clear HB; have HO286 := n0_; have BK280 := n1_; have BK281 := n2_; have HB := n3_; have BK287 := n4_; have GW287 := n5_; have GE287 := n6_; have NB280_287 := n7_; have NB287_280 := n8_; have NB281_287 := n9_; have NB287_281 := n10_; clear n0_ n1_ n2_ n3_ n4_ n5_ n6_ n7_ n8_ n9_ n10_; clear hb hbox hg; have hnb27 := NB287_280.out; have hnc27 := NB280_287.out; have hnb28 := NB287_281.out; have hnc28 := NB281_287.out; obtain ⟨hcz29_0, hcz29_1, hfz29_0, hfz29_1⟩ := sqc2 BK287; obtain ⟨Ao30, co30, eo30⟩ := Kd.R_slice HO286.out; subst eo30; obtain ⟨hcz31_0, hcz31_1, hfz31_0, hfz31_1⟩ := sqc2 BK280))
        go_loopg [26] kj2 (fun kq v26 w' => ∃ (x26_2 : Int) (x288001_2 : List Int) (u288001 : Value), v26 = .int .i64 x26_2 ∧ Aside0 (impl_GapsForget.l0 kq a1 (wrap64 (a0_0 + 1)) x26_2 a0_0 l0_1 t283 x288001_2 = some (r1, r2)) ∧ Aside0 (kq ≤ kj2) ∧ Aside0 (Kd.R (Kd.int .i64) 3 w' w.heap.size (fun _ => True) u288001 x288001_2) ∧ Aside0 (w'.heap[gb280]? = some (.cells #[.int .i64 a0_0, (.slice A0_1 l0_1.length c0_1)] 41 (0, 0))) ∧ Aside0 (w'.heap[gb281]? = some (.cells #[.int .i64 0, (.slice none 0 0)] 41 (0, 0))) ∧ Aside0 (w'.heap[gb287]? = some (.cells #[.int .i64 t283, u288001] 41 (0, 0))) ∧ Aside0 (Below w.heap.size w w'))
        case atStart => exact ⟨(0), (t284), (.slice Ao30 t284.length co30), (by first | rfl | (simp; done) | (simp [*]; done)), H', ⟨Nat.le_refl _⟩, ⟨by (with_reducible repeat (first | apply Kd.R_alloc | apply Kd.R_drewN | apply Kd.R_drew)); exact Kd.R_mono (Kd.R_far (p := ⟨gb287, 1, none⟩) (Kd.R_far (p := ⟨gb287, 0, none⟩) (Kd.R_types HO286.out BK287.out (by decide)) (fun _ hk => hk.2) (.int .i64 t283)) (fun _ hk => hk.2) (.slice Ao30 t284.length co30)) (fun _ hk => trivial)⟩, ⟨by refine sqt ?_; refine blk_far ?_ NB280_287.out _; refine sqt ?_; refine blk_far ?_ NB280_287.out _; refine sqt ?_; exact BK280.out⟩, ⟨by refine sqt ?_; refine blk_far ?_ NB281_287.out _; refine sqt ?_; refine blk_far ?_ NB281_287.out _; refine sqt ?_; exact BK281.out⟩, ⟨by refine sqt ?_; refine blk_put (cs := #[.int .i64 t283, .slice none 0 0]) ?_ 1 _ rfl; refine sqt ?_; refine blk_put (cs := #[.int .i64 0, .slice none 0 0]) ?_ 0 _ rfl; refine sqt ?_; exact BK287.out⟩, sqh HB⟩
        case round =>
          clear H'
          try clear c1
          try clear c2
          try clear p2
          try clear c3
          try clear c4
          try clear p6
          try clear c7
          try clear c8
          try clear c8b0
          try clear c9
          try clear c11
          try clear c12
          try clear c16
          try clear c19
          try clear c20
          try clear c23
          try clear c27
          try clear c28
          try clear c31
          try clear hcz10_0
          try clear hcz10_1
          try clear hcz13_0
          try clear hcz13_1
          try clear hcz15_0
          try clear hcz15_1
          try clear hcz17_0
          try clear hcz17_1
          try clear hcz21_0
          try clear hcz21_1
          try clear hcz24_0
          try clear hcz24_1
          try clear hcz29_0
          try clear hcz29_1
          try clear hcz31_0
          try clear hcz31_1
          try clear hfz10_0
          try clear hfz10_1
          try clear hfz13_0
          try clear hfz13_1
          try clear hfz15_0
          try clear hfz15_1
          try clear hfz17_0
          try clear hfz17_1
          try clear hfz21_0
          try clear hfz21_1
          try clear hfz24_0
          try clear hfz24_1
          try clear hfz29_0
          try clear hfz29_1
          try clear hfz31_0
          try clear hfz31_1
          try clear p2
          obtain ⟨x26_2, x288001_2, u288001, rfl, HA, HK2, HO_288001, BK280, BK281, BK287, HB⟩ := hrel
          cases gk with
          | zero => exact absurd HA.out (by simp [impl_GapsForget.l0])
          | succ k2 =>
            have H := HA.out
            clear HA
            simp only [impl_GapsForget.l0] at H
            by_cases c32 : x26_2 < (wrap64 (a0_0 + 1))
            · rw [if_pos c32] at H
              have c32b0 : decide (x26_2 < (wrap64 (a0_0 + 1))) = true := decide_eq_true c32
              clear c32
              by_cases c33 : x26_2 = a1
              · rw [if_pos c33] at H
                have c33b0 : (x26_2 == a1) = true := beq_iff_eq.mpr c33
                have c33b1 : (x26_2 != a1) = false := bne_eq_false_iff_eq.mpr c33
                clear c33
                have H' := Aside0.mk H
                clear H
                go_wp2
                go_roundg k2
                case measure => have := HJ2.out; have := HK2.out; omega
                case rel => exact ⟨(wrap64 (x26_2 + 1)), (x288001_2), (u288001), (by first | rfl | (simp; done) | (simp [*]; done)), H', ⟨by have := HJ2.out; have := HK2.out; omega⟩, ⟨by (with_reducible repeat (first | apply Kd.R_alloc | apply Kd.R_drewN | apply Kd.R_drew)); exact HO_288001.out⟩, sqk BK280, sqk BK281, sqk BK287, sqh HB⟩
              · rw [if_neg c33] at H
                have c33b0 : (x26_2 == a1) = false := beq_eq_false_iff_ne.mpr c33
                have c33b1 : (x26_2 != a1) = true := bne_iff_ne.mpr c33
                replace H := Option.bind_eq_some_iff.mp H
                obtain ⟨t288, A340, H⟩ := H
                replace H : (if 0 ≤ t288 then (if t288 < (x288001_2.length : Int) then ((impl_Gaps_at.f a0_0 l0_1 x26_2 a1).bind fun t290 => (if 0 ≤ t290 then (if t290 < (x288001_2.length : Int) then (impl_GapsForget.l0 k2 a1 (wrap64 (a0_0 + 1)) (wrap64 (x26_2 + 1)) a0_0 l0_1 t283 ((x288001_2.set (t288 : Int).toNat 1099511627776).set (t290 : Int).toNat 1099511627776)) else (none)) else (none))) else (none)) else (none)) = some (r1, r2) := H
                have A34 := Aside0.mk A340
                clear A340
                by_cases c35 : 0 ≤ t288
                · rw [if_pos c35] at H
                  have c35b0 : decide (0 ≤ t288) = true := decide_eq_true c35
                  clear c35
                  by_cases c36 : t288 < (x288001_2.length : Int)
                  · rw [if_pos c36] at H
                    have c36b0 : decide (t288 < (x288001_2.length : Int)) = true := decide_eq_true c36
                    clear c36
                    obtain ⟨y289, hy289⟩ : ∃ y_ : List Int, y_ = (x288001_2.set (t288 : Int).toNat 1099511627776) := ⟨_, rfl⟩
                    replace H : ((impl_Gaps_at.f a0_0 l0_1 x26_2 a1).bind fun t290 => (if 0 ≤ t290 then (if t290 < (x288001_2.length : Int) then (impl_GapsForget.l0 k2 a1 (wrap64 (a0_0 + 1)) (wrap64 (x26_2 + 1)) a0_0 l0_1 t283 (y289.set (t290 : Int).toNat 1099511627776)) else (none)) else (none))) = some (r1, r2) := by first | (rw [hy289]; with_reducible exact H) | (have H2_ := (Option.bind_some _ _).symm.trans H; rw [hy289]; with_reducible exact H2_) | (have H2_ := (Option.bind_some _ _).symm.trans H; with_reducible exact H2_) | with_reducible exact H | (rw [hy289]; exact H) | exact H
                    have Ny289 := Aside0.mk hy289
                    clear hy289
                    replace H := Option.bind_eq_some_iff.mp H
                    obtain ⟨t290, A380, H⟩ := H
                    replace H : (if 0 ≤ t290 then (if t290 < (x288001_2.length : Int) then (impl_GapsForget.l0 k2 a1 (wrap64 (a0_0 + 1)) (wrap64 (x26_2 + 1)) a0_0 l0_1 t283 (y289.set (t290 : Int).toNat 1099511627776)) else (none)) else (none)) = some (r1, r2) := H
                    have A38 := Aside0.mk A380
                    clear A380
                    by_cases c39 : 0 ≤ t290
                    · rw [if_pos c39] at H
                      have c39b0 : decide (0 ≤ t290) = true := decide_eq_true c39
                      clear c39
                      by_cases c40 : t290 < (x288001_2.length : Int)
                      · rw [if_pos c40] at H
                        have c40b0 : decide (t290 < (x288001_2.length : Int)) = true := decide_eq_true c40
                        clear c40
                        obtain ⟨y291, hy291⟩ : ∃ y_ : List Int, y_ = (y289.set (t290 : Int).toNat 1099511627776) := ⟨_, rfl⟩
                        replace H : (impl_GapsForget.l0 k2 a1 (wrap64 (a0_0 + 1)) (wrap64 (x26_2 + 1)) a0_0 l0_1 t283 y291) = some (r1, r2) := by first | (rw [hy291]; with_reducible exact H) | (have H2_ := (Option.bind_some _ _).symm.trans H; rw [hy291]; with_reducible exact H2_) | (have H2_ := (Option.bind_some _ _).symm.trans H; with_reducible exact H2_) | with_reducible exact H | (rw [hy291]; exact H) | exact H
                        have Ny291 := Aside0.mk hy291
                        clear hy291
                        have H' := Aside0.mk H
                        clear H
                        try go_wp2
                        replace HO_288001 := Aside0.mk (Kd.R_drew HO_288001.out)
                        replace BK280 := Aside0.mk (blk_drew BK280.out)
                        replace BK281 := Aside0.mk (blk_drew BK281.out)
                        replace BK287 := Aside0.mk (blk_drew BK287.out)
                        replace HB := Aside0.mk (below_drew1 HB.out)
                        refine start_ (n := 8) (S := fun w' => w'.cell? ⟨gb287, 0, none⟩ = some (.int .i64 t283) ∧ w'.cell? ⟨gb287, 1, none⟩ = some (u288001) ∧ w'.cell? ⟨gb280, 0, none⟩ = some (.int .i64 a0_0) ∧ w'.cell? ⟨gb280, 1, none⟩ = some (.slice A0_1 l0_1.length c0_1)) (ds := [7]) #[false, false, false, false, false, false, false, false] (by kernel_rfl) rfl rfl ⟨(blk_cell BK287.out 0).trans rfl, (blk_cell BK287.out 1).trans rfl, (blk_cell BK280.out 0).trans rfl, (blk_cell BK280.out 1).trans rfl⟩ (fun hHeld => ?_); refine with_tabW impl_GapsForget.tab8 impl_GapsForget.bits8 (fun HT_ HW_ => ?_)
                        generalize wr.drew = w42 at HO_288001 BK280 BK281 BK287 HB hHeld ⊢
                        refine sqp HT_ 0 32 ?_
                        refine sqp HT_ 3 35 ?_
                        refine sqp HT_ 4 36 ?_
                        refine sqw HT_ HW_ 1 33 hHeld ?_
                        refine sqw HT_ HW_ 2 34 hHeld ?_
                        refine sqo HT_ 5 37 (fun K hK => ?_)
                        refine sqG Try.func118 #[.agg #[.int .i64 a0_0, .slice A0_1 l0_1.length c0_1], .int .i64 a1, .int .i64 x26_2] ?_
                        with_reducible refine (impl_Gaps_at.calls a0_0 _ _ l0_1 a1 x26_2 t288 _ ?side1 ?side2 A34.out).mono ?_
                        (case side1 => repeat (first | exact (Kd.C_below HR0_1.out HB.out) | (with_reducible refine Kd.C_alloc ?_ _) | (with_reducible refine Kd.C_drewN ?_ _) | (with_reducible refine Kd.C_drew ?_)))
                        (case side2 => exact HC0_1.out)
                        rintro e w43 ⟨rfl, hb⟩
                        refine ⟨_, rfl, ?_⟩
                        have n0_ := Aside0.mk (Kd.R_below (by (with_reducible repeat (first | apply Kd.R_alloc | apply Kd.R_drewN | apply Kd.R_drew)); exact HO_288001.out) hb)
                        have n1_ := sqb BK280 hb
                        have n2_ := sqb BK281 hb
                        have n3_ := sqb BK287 hb
                        have n4_ := sqs HB hb
                        clear HO_288001
                        clear BK280
                        clear BK281
                        clear BK287
                        clear HB
                        have HO_288001 := n0_
                        have BK280 := n1_
                        have BK281 := n2_
                        have BK287 := n3_
                        have HB := n4_
                        clear n0_ n1_ n2_ n3_ n4_
                        (try clear hb)
                        have p37 : 0 ≤ (t288 : Int) := of_decide_eq_true (by first | (with_reducible assumption) | assumption)
                        have q37 : (t288 : Int) < ((x288001_2.length : Int) : Int) := of_decide_eq_true (by first | (with_reducible assumption) | assumption)
                        obtain ⟨go37, co37, eo37, gb37, gl37, cl37, HG37⟩ := Kd.R_form HO_288001.out (by omega)
                        (first | cases eo37 | (injection eo37 with ea_ en_ ec_; (first | subst ea_ | (injection ea_ with ea_; subst ea_)); subst ec_; clear en_))
                        have GB37 := Aside0.mk gb37
                        have GG37 := Aside0.mk HG37
                        clear gb37 gl37 HG37
                        obtain ⟨hx37_0, hf37_0⟩ := Kd.R_celln 0 HO_288001.out (t288 : Int) p37 q37
                        replace p37 := eq_true p37
                        replace q37 := eq_true q37
                        have HP44 := Kd.R_putn HO_288001.out (t288 : Int) 1099511627776
                        rw [← Ny289.out] at HP44
                        have HQ44 := Aside0.mk HP44
                        clear HP44
                        refine hK.out _ _ sqz (fun hHeld => ?_)
                        clear hK K
                        refine sqnm ?_
                        refine sqp HT_ 6 38 ?_
                        refine last_ (i := 7) (N := none) #[true, true, true, true, true, true, true, true] rfl rfl (one_of HT_.out (by kernel_rfl)) (by decide) (fun K hK => ?_)
                        refine skip_ (w1 := ?_) (by rfl) rfl ?_ ?_
                        rotate_left
                        · go_simp
                          rfl
                        refine hK.out _ _ ?_
                        clear hK K
                        refine done_ (done_of HT_.out (by kernel_rfl)) ?_
                        try go_wp2
                        have n0_ : Aside0 (Kd.R (Kd.int .i64) 3 (w43.setCell ⟨go37, (t288 : Int).toNat, none⟩ (.int .i64 1099511627776)) w.heap.size (fun _ => True) (.slice (some ⟨go37, 0, none⟩) x288001_2.length co37) y289) := ⟨by (with_reducible repeat (first | apply Kd.R_alloc | apply Kd.R_drewN | apply Kd.R_drew)); exact HQ44.out⟩
                        have n1_ : Aside0 ((w43.setCell ⟨go37, (t288 : Int).toNat, none⟩ (.int .i64 1099511627776)).heap[gb280]? = some (.cells #[.int .i64 a0_0, .slice A0_1 l0_1.length c0_1] 41 (0, 0))) := ⟨by refine sqt ?_; refine blk_far ?_ (by have h_ := Kd.R_ne HO_288001.out BK280.out (by decide); intro e_; exact h_ (by rw [e_]; rfl)) _; refine sqt ?_; exact BK280.out⟩
                        have n2_ : Aside0 ((w43.setCell ⟨go37, (t288 : Int).toNat, none⟩ (.int .i64 1099511627776)).heap[gb281]? = some (.cells #[.int .i64 0, .slice none 0 0] 41 (0, 0))) := ⟨by refine sqt ?_; refine blk_far ?_ (by have h_ := Kd.R_ne HO_288001.out BK281.out (by decide); intro e_; exact h_ (by rw [e_]; rfl)) _; refine sqt ?_; exact BK281.out⟩
                        have n3_ : Aside0 ((w43.setCell ⟨go37, (t288 : Int).toNat, none⟩ (.int .i64 1099511627776)).heap[gb287]? = some (.cells #[.int .i64 t283, .slice (some ⟨go37, 0, none⟩) x288001_2.length co37] 41 (0, 0))) := ⟨by refine sqt ?_; refine blk_far ?_ (by have h_ := Kd.R_ne HO_288001.out BK287.out (by decide); intro e_; exact h_ (by rw [e_]; rfl)) _; refine sqt ?_; exact BK287.out⟩
                        have n4_ : Aside0 (Below w.heap.size w (w43.setCell ⟨go37, (t288 : Int).toNat, none⟩ (.int .i64 1099511627776))) := ⟨by repeat (first | (with_reducible first | exact HB.out | apply below_alloc | apply pw_below_drewN | apply below_drew1 | refine below_set ?_ GB37.out | refine below_set ?_ GE280.out | refine below_set ?_ GE281.out | refine below_set ?_ GE287.out) | exact HB.out)⟩
                        (try clear HO_288001)
                        (try clear BK280)
                        (try clear BK281)
                        (try clear BK287)
                        (try clear HB)
                        generalize (w43.setCell ⟨go37, (t288 : Int).toNat, none⟩ (.int .i64 1099511627776)) = w45 at n0_ n1_ n2_ n3_ n4_ ⊢
                        have HO_288001 := n0_
                        have BK280 := n1_
                        have BK281 := n2_
                        have BK287 := n3_
                        have HB := n4_
                        clear n0_ n1_ n2_ n3_ n4_
                        replace HO_288001 := Aside0.mk (Kd.R_drew HO_288001.out)
                        replace BK280 := Aside0.mk (blk_drew BK280.out)
                        replace BK281 := Aside0.mk (blk_drew BK281.out)
                        replace BK287 := Aside0.mk (blk_drew BK287.out)
                        replace HB := Aside0.mk (below_drew1 HB.out)
                        refine start_ (n := 8) (S := fun w' => w'.cell? ⟨gb287, 0, none⟩ = some (.int .i64 t283) ∧ w'.cell? ⟨gb287, 1, none⟩ = some (.slice (some ⟨go37, 0, none⟩) x288001_2.length co37) ∧ w'.cell? ⟨gb280, 0, none⟩ = some (.int .i64 a0_0) ∧ w'.cell? ⟨gb280, 1, none⟩ = some (.slice A0_1 l0_1.length c0_1)) (ds := [7]) #[false, false, false, false, false, false, false, false] (by kernel_rfl) rfl rfl ⟨(blk_cell BK287.out 0).trans rfl, (blk_cell BK287.out 1).trans rfl, (blk_cell BK280.out 0).trans rfl, (blk_cell BK280.out 1).trans rfl⟩ (fun hHeld => ?_); refine with_tabW impl_GapsForget.tab9 impl_GapsForget.bits9 (fun HT_ HW_ => ?_)
                        generalize w45.drew = w46 at HO_288001 BK280 BK281 BK287 HB HQ44 hHeld ⊢
                        refine sqp HT_ 0 39 ?_
                        refine sqp HT_ 3 42 ?_
                        refine sqp HT_ 4 43 ?_
                        refine sqw HT_ HW_ 1 40 hHeld ?_
                        refine sqw HT_ HW_ 2 41 hHeld ?_
                        refine sqo HT_ 5 44 (fun K hK => ?_)
                        refine sqG Try.func118 #[.agg #[.int .i64 a0_0, .slice A0_1 l0_1.length c0_1], .int .i64 x26_2, .int .i64 a1] ?_
                        with_reducible refine (impl_Gaps_at.calls a0_0 _ _ l0_1 x26_2 a1 t290 _ ?side1 ?side2 A38.out).mono ?_
                        (case side1 => repeat (first | exact (Kd.C_below HR0_1.out HB.out) | (with_reducible refine Kd.C_alloc ?_ _) | (with_reducible refine Kd.C_drewN ?_ _) | (with_reducible refine Kd.C_drew ?_)))
                        (case side2 => exact HC0_1.out)
                        rintro e w47 ⟨rfl, hb⟩
                        refine ⟨_, rfl, ?_⟩
                        have n0_ := Aside0.mk (Kd.R_below (by (with_reducible repeat (first | apply Kd.R_alloc | apply Kd.R_drewN | apply Kd.R_drew)); exact HO_288001.out) hb)
                        have n1_ := sqb BK280 hb
                        have n2_ := sqb BK281 hb
                        have n3_ := sqb BK287 hb
                        have n4_ := sqs HB hb
                        clear HO_288001
                        clear BK280
                        clear BK281
                        clear BK287
                        clear HB
                        have HO_288001 := n0_
                        have BK280 := n1_
                        have BK281 := n2_
                        have BK287 := n3_
                        have HB := n4_
                        clear n0_ n1_ n2_ n3_ n4_
                        (try clear hb)
                        have p41 : 0 ≤ (t290 : Int) := of_decide_eq_true (by first | (with_reducible assumption) | assumption)
                        have q41 : (t290 : Int) < ((x288001_2.length : Int) : Int) := of_decide_eq_true (by first | (with_reducible assumption) | assumption)
                        obtain ⟨hx41_0, hf41_0⟩ := Kd.R_celln 0 HO_288001.out (t290 : Int) p41 q41
                        replace p41 := eq_true p41
                        replace q41 := eq_true q41
                        have HP48 := Kd.R_putn HO_288001.out (t290 : Int) 1099511627776
                        rw [← Ny291.out] at HP48
                        have HQ48 := Aside0.mk HP48
                        clear HP48
                        refine hK.out _ _ sqz (fun hHeld => ?_)
                        clear hK K
                        refine sqnm ?_
                        refine sqp HT_ 6 45 ?_
                        refine last_ (i := 7) (N := none) #[true, true, true, true, true, true, true, true] rfl rfl (one_of HT_.out (by kernel_rfl)) (by decide) (fun K hK => ?_)
                        refine skip_ (w1 := ?_) (by rfl) rfl ?_ ?_
                        rotate_left
                        · go_simp
                          rfl
                        refine hK.out _ _ ?_
                        clear hK K
                        refine done_ (done_of HT_.out (by kernel_rfl)) ?_
                        try go_wp2
                        go_roundg k2
                        case measure => have := HJ2.out; have := HK2.out; omega
                        case rel => exact ⟨(wrap64 (x26_2 + 1)), (y291), (.slice (some ⟨go37, 0, none⟩) x288001_2.length co37), (by first | rfl | (simp; done) | (simp [*]; done)), H', ⟨by have := HJ2.out; have := HK2.out; omega⟩, ⟨by (with_reducible repeat (first | apply Kd.R_alloc | apply Kd.R_drewN | apply Kd.R_drew)); exact HQ48.out⟩, ⟨by refine sqt ?_; refine blk_far ?_ (by have h_ := Kd.R_ne HO_288001.out BK280.out (by decide); intro e_; exact h_ (by rw [e_]; rfl)) _; refine sqt ?_; exact BK280.out⟩, ⟨by refine sqt ?_; refine blk_far ?_ (by have h_ := Kd.R_ne HO_288001.out BK281.out (by decide); intro e_; exact h_ (by rw [e_]; rfl)) _; refine sqt ?_; exact BK281.out⟩, ⟨by refine sqt ?_; refine blk_far ?_ (by have h_ := Kd.R_ne HO_288001.out BK287.out (by decide); intro e_; exact h_ (by rw [e_]; rfl)) _; refine sqt ?_; exact BK287.out⟩, ⟨by repeat (first | (with_reducible first | exact HB.out | apply below_alloc | apply pw_below_drewN | apply below_drew1 | refine below_set ?_ GB37.out | refine below_set ?_ GE280.out | refine below_set ?_ GE281.out | refine below_set ?_ GE287.out) | exact HB.out)⟩⟩
                      · rw [if_neg c40] at H
                        exact absurd H (by simp)
                    · rw [if_neg c39] at H
                      exact absurd H (by simp)
                  · rw [if_neg c36] at H
                    exact absurd H (by simp)
                · rw [if_neg c35] at H
                  exact absurd H (by simp)
            · rw [if_neg c32] at H
              have c32b0 : decide (x26_2 < (wrap64 (a0_0 + 1))) = false := decide_eq_false c32
              clear c32
              simp only [Option.some.injEq, Prod.mk.injEq] at H
              obtain ⟨rfl, rfl⟩ := H
              have hnb49 := NB287_280.out
              have hnc49 := NB280_287.out
              have hnb50 := NB287_281.out
              have hnc50 := NB281_287.out
              obtain ⟨hcz51_0, hcz51_1, hfz51_0, hfz51_1⟩ := sqc2 BK287
              have hnb52 := NB281_280.out
              have hnc52 := NB280_281.out
              obtain ⟨hcz53_0, hcz53_1, hfz53_0, hfz53_1⟩ := sqc2 BK281
              obtain ⟨Ao54, co54, eo54⟩ := Kd.R_slice HO_288001.out
              subst eo54
              go_wp2
              refine bodyPost_ret (results_cell_row rfl _ _ gb281 41 #[.int .i64 t283, .slice Ao54 x288001_2.length co54] (0, 0) _ rfl (by refine sqt ?_; refine blk_put (cs := #[.int .i64 t283, .slice none 0 0]) ?_ 1 _ rfl; refine sqt ?_; refine blk_put (cs := #[.int .i64 0, .slice none 0 0]) ?_ 0 _ rfl; refine sqt ?_; exact BK281.out) Try.underlying41 rfl (by kernel_rfl)) rfl ?_
              exact ⟨_, by first | rfl | (simp [errW_none, errW_some] <;> rfl) | (simp [*, errW_none, errW_some] <;> rfl), by (with_reducible repeat (first | apply Kd.R_alloc | apply Kd.R_drewN | apply Kd.R_drew)); exact Kd.R_mono (Kd.R_far (p := ⟨gb281, 1, none⟩) (Kd.R_far (p := ⟨gb281, 0, none⟩) (Kd.R_types HO_288001.out BK281.out (by decide)) (fun _ hk => hk.2) (.int .i64 t283)) (fun _ hk => hk.2) (.slice Ao54 x288001_2.length co54)) (fun _ hk => trivial), by repeat (first | (with_reducible first | exact HB.out | apply below_alloc | apply pw_below_drewN | apply below_drew1 | refine below_set ?_ GE280.out | refine below_set ?_ GE281.out | refine below_set ?_ GE287.out) | exact HB.out)⟩

end Go.Proofs.Ytkekcenlleebeaa.PFnGapsBack
