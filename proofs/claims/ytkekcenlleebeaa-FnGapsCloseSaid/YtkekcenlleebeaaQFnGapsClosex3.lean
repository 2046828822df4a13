/- Functions of the program as plain Lean functions, and that calls of them come to what these tell. Conditions: those in each law. -/
import Derived.Test.YtkekcenlleebeaaSq
import Derived.Test.YtkekcenlleebeaaDFnGapsClose
import Derived.Test.YtkekcenlleebeaaQFnGapsClosex0
import Derived.Test.YtkekcenlleebeaaQFnGapsClosex1
namespace Go.Proofs.Ytkekcenlleebeaa.PFnGapsClose
open Go.RowKit Go.Proofs.Ytkekcenlleebeaa.Sq Go.Proofs.YtkekcenlleebeaaW.PrintWords Go.Proofs.YtkekcenlleebeaaW.PrintLast Go.Proofs.YtkekcenlleebeaaW.PrintMore
attribute [local go_sem] max2_int min2_int max_two min_two max_three min_three max_four min_four   -- for this text's walks alone
set_option linter.unusedVariables false
set_option linter.unusedSimpArgs false

/-! ### spec_l11Spoilt: function 110 -/
def spec_l11Spoilt.T7 : Bool × List (List Nat × List Nat) := (true, [([], []), ([0], [0]), ([], []), ([], []), ([3], [3]), ([4], [4]), ([2, 5], [2, 5]), ([], []), ([], []), ([8, 6], [8]), ([7, 9], [7, 9]), ([10], [10]), ([1, 6, 0, 1, 2, 3, 4, 5, 6, 7, 8, 9, 10, 11], [1, 6]), ([12, 11, 9, 0, 1, 2, 3, 4, 5, 6, 7, 8, 9, 10, 11], [11, 12])])
def spec_l11Spoilt.B7 : List Nat := [0, 1, 0, 0, 8, 24, 60, 0, 0, 380, 1020, 2044, 4095, 8191]
theorem spec_l11Spoilt.tab7 : rtab .any (opsOf Try.f110 7) = spec_l11Spoilt.T7 := by kernel_rfl
theorem spec_l11Spoilt.bits7 : waitsOk spec_l11Spoilt.T7.2 spec_l11Spoilt.B7 = true := by kernel_rfl
set_option maxHeartbeats 8000000 in
set_option maxRecDepth 100000 in
theorem spec_l11Spoilt.calls (k : Nat) (g : Nat) (s0_0 : List Int) (s0_1 : Int) (a1_0 : Int) (P1_1_ : Nat → Prop) (u9000_ : Value) (l1_1 : List Int) (r1 : Int) (r2 : List Int) (r3 : Int) (w0 w : World) (hI : IsS161 w0 w g s0_0 s0_1) (hB : Below w0.heap.size w0 w) (ho1_1 : Kd.R (Kd.int .i64) 3 w w0.heap.size P1_1_ u9000_ l1_1) (h : spec_l11Spoilt.f k s0_0 s0_1 a1_0 l1_1 = some (r1, r2, r3)) :
  Calls Try.prog 110 #[.pointer (some ⟨g, 0, none⟩), .agg #[.int .i64 a1_0, u9000_]] w fun e w' => ∃ v1_ : Value, e = .returned (.agg #[.int .i64 r1, v1_]) ∧ Kd.R (Kd.int .i64) 3 w' w0.heap.size (fun k_ => (P1_1_ k_ ∨ w.heap.size ≤ k_)) v1_ r2 ∧ IsS161 w0 w' g s0_0 r3 ∧ Below w0.heap.size w0 w' ∧ Kept w w' (fun k_ => (P1_1_ k_) ∨ k_ = g) := by
 have hu41 := Try.underlying41
 have HO1_1 := Aside0.mk (show Kd.R (Kd.int .i64) 3 w w0.heap.size (fun k_ => (P1_1_ k_ ∨ w.heap.size ≤ k_)) u9000_ l1_1 from Kd.R_mono ho1_1 (fun k_ hk => (.inl hk)))
 have HI0 := Aside0.mk hI
 have HL := Aside0.mk hB.size
 clear hI
 have HK := Aside0.mk (Kept.refl w (fun k_ => (P1_1_ k_) ∨ k_ = g))
 have HW0 := Aside0.mk hB.size
 have HB := Aside0.mk hB
 clear hB
 have H : ((spec_l1Rd_pick.f k s0_0 s0_1 30).bind fun bt182 => (if bt182.1 = 0 then (spec_l11Spoilt.j0 k bt182.1 s0_0 bt182.2 (wrap64 (a1_0 + 1)) l1_1) else (spec_l11Spoilt.j0 k bt182.1 s0_0 bt182.2 a1_0 l1_1))) = some (r1, r2, r3) := h
 clear h
 replace H := sqbi H
 obtain ⟨⟨t182, t183⟩, A3, H⟩ := H
 replace H : (if t182 = 0 then (spec_l11Spoilt.j0 k t182 s0_0 t183 (wrap64 (a1_0 + 1)) l1_1) else (spec_l11Spoilt.j0 k t182 s0_0 t183 a1_0 l1_1)) = some (r1, r2, r3) := H
 have HC4 := Aside0.mk H
 clear H
 obtain ⟨Ao5, co5, eo5⟩ := Kd.R_slice HO1_1.out
 subst eo5
 go_enter Try.func110, Try.ntmps110
 go_upto_if 9 with (first | ((with_reducible refine gate_dst (N := 3) rfl ?_); (try (refine gate_guard (by rfl) ?_; dsimp only)); refine sqx 3 #[.int .i64 a1_0, .slice Ao5 l1_1.length co5] 41 ?_; intro gb180 hg w6 hbox hb; have n0_ := Aside0.mk (Kd.R_below (sqy HO1_1.out) hb); have n1_ := Aside0.mk (IsS161.below (by repeat (first | (with_reducible first | exact HI0.out | apply IsS161.alloc | apply IsS161.drewN | apply IsS161.drew | apply IsS161.set_1) | exact HI0.out)) hb); have n2_ := Aside0.mk (Kept.below (S := (fun k_ => (P1_1_ k_) ∨ k_ = g)) (by repeat (first | (with_reducible first | exact HK.out | apply Kept.alloc | apply Kept.drewN | apply Kept.drew | refine Kept.setCell ?_ (.inl (.inr rfl)) _) | exact HK.out)) hb); have n3_ := Aside0.mk (below_step (by repeat (first | (with_reducible first | exact HB.out | apply below_alloc | apply pw_below_drewN | apply below_drew1 | refine below_set ?_ (IsS161.ge HI0.out)) | exact HB.out)) hb); have n4_ := Aside0.mk (hbox); have n5_ := Aside0.mk ((by rw [hg]; exact (by first | exact HK.out.1 | exact (show Kept w _ (fun k_ => (P1_1_ k_) ∨ k_ = g) from by repeat (first | (with_reducible first | exact HK.out | apply Kept.alloc | apply Kept.drewN | apply Kept.drew | refine Kept.setCell ?_ (.inl (.inr rfl)) _) | exact HK.out)).1) : w.heap.size ≤ gb180)); have n6_ := Aside0.mk ((by rw [hg]; exact (below_size (by repeat (first | (with_reducible first | exact HB.out | apply below_alloc | apply pw_below_drewN | apply below_drew1 | refine below_set ?_ (IsS161.ge HI0.out)) | exact HB.out))) : w0.heap.size ≤ gb180)); have n7_ := Aside0.mk ((by rw [hg]; exact Nat.ne_of_lt (IsS161.lt (show IsS161 w0 _ g s0_0 s0_1 from by repeat (first | (with_reducible first | exact HI0.out | apply IsS161.alloc | apply IsS161.drewN | apply IsS161.drew | apply IsS161.set_1) | exact HI0.out))) : g ≠ gb180)); have n8_ := Aside0.mk ((by rw [hg]; exact Nat.ne_of_gt (IsS161.lt (show IsS161 w0 _ g s0_0 s0_1 from by repeat (first | (with_reducible first | exact HI0.out | apply IsS161.alloc | apply IsS161.drewN | apply IsS161.drew | apply IsS161.set_1) | exact HI0.out))) : gb180 ≠ g)); clear HO1_1; clear HI0; clear HK; clear HB; have HO1_1 := n0_; have HI0 := n1_; have HK := n2_; have HB := n3_; have BK180 := n4_; have GW180 := n5_; have GE180 := n6_; have NB0_180 := n7_; have NB180_0 := n8_; clear n0_ n1_ n2_ n3_ n4_ n5_ n6_ n7_ n8_; clear hb hbox hg) | ((with_reducible refine gate_dst (N := 4) rfl ?_); (try (refine gate_guard (by rfl) ?_; dsimp only)); refine sqx 4 #[.int .i64 0, .slice none 0 0] 41 ?_; intro gb181 hg w7 hbox hb; have n0_ := Aside0.mk (Kd.R_below (sqy HO1_1.out) hb); have n1_ := Aside0.mk (IsS161.below (by repeat (first | (with_reducible first | exact HI0.out | apply IsS161.alloc | apply IsS161.drewN | apply IsS161.drew | apply IsS161.set_1 | refine IsS161.far ?_ NB0_180.out _) | exact HI0.out)) hb); have n2_ := sqb BK180 hb; have n3_ := Aside0.mk (Kept.below (S := (fun k_ => (P1_1_ k_) ∨ k_ = g)) (by repeat (first | (with_reducible first | exact HK.out | apply Kept.alloc | apply Kept.drewN | apply Kept.drew | refine Kept.setCell ?_ (.inl (.inr rfl)) _ | refine Kept.setCell ?_ (.inr GW180.out) _) | exact HK.out)) hb); have n4_ := Aside0.mk (below_step (by repeat (first | (with_reducible first | exact HB.out | apply below_alloc | apply pw_below_drewN | apply below_drew1 | refine below_set ?_ (IsS161.ge HI0.out) | refine below_set ?_ GE180.out) | exact HB.out)) hb); have n5_ := Aside0.mk (hbox); have n6_ := Aside0.mk ((by rw [hg]; exact (by first | exact HK.out.1 | exact (show Kept w _ (fun k_ => (P1_1_ k_) ∨ k_ = g) from by repeat (first | (with_reducible first | exact HK.out | apply Kept.alloc | apply Kept.drewN | apply Kept.drew | refine Kept.setCell ?_ (.inl (.inr rfl)) _ | refine Kept.setCell ?_ (.inr GW180.out) _) | exact HK.out)).1) : w.heap.size ≤ gb181)); have n7_ := Aside0.mk ((by rw [hg]; exact (below_size (by repeat (first | (with_reducible first | exact HB.out | apply below_alloc | apply pw_below_drewN | apply below_drew1 | refine below_set ?_ (IsS161.ge HI0.out) | refine below_set ?_ GE180.out) | exact HB.out))) : w0.heap.size ≤ gb181)); have n8_ := sqn BK180 hg; have n9_ := sqm BK180 hg; have n10_ := Aside0.mk ((by rw [hg]; exact Nat.ne_of_lt (IsS161.lt (show IsS161 w0 _ g s0_0 s0_1 from by repeat (first | (with_reducible first | exact HI0.out | apply IsS161.alloc | apply IsS161.drewN | apply IsS161.drew | apply IsS161.set_1 | refine IsS161.far ?_ NB0_180.out _) | exact HI0.out))) : g ≠ gb181)); have n11_ := Aside0.mk ((by rw [hg]; exact Nat.ne_of_gt (IsS161.lt (show IsS161 w0 _ g s0_0 s0_1 from by repeat (first | (with_reducible first | exact HI0.out | apply IsS161.alloc | apply IsS161.drewN | apply IsS161.drew | apply IsS161.set_1 | refine IsS161.far ?_ NB0_180.out _) | exact HI0.out))) : gb181 ≠ g)); clear HO1_1; clear HI0; clear BK180; clear HK; clear HB; have HO1_1 := n0_; have HI0 := n1_; have BK180 := n2_; have HK := n3_; have HB := n4_; have BK181 := n5_; have GW181 := n6_; have GE181 := n7_; have NB180_181 := n8_; have NB181_180 := n9_; have NB0_181 := n10_; have NB181_0 := n11_; clear n0_ n1_ n2_ n3_ n4_ n5_ n6_ n7_ n8_ n9_ n10_ n11_; clear hb hbox hg) | ((with_reducible refine gate_callee (f := 109) rfl ?_); refine sqL (some 7) Try.func109 #[.pointer (some ⟨g, 0, none⟩), .int .i64 30] ?_; (with_reducible refine (spec_l1Rd_pick.calls k g s0_0 s0_1 30 t182 t183 w0 _ ?side1 ?side2 A3.out).mono ?_); (case side1 => repeat (first | (with_reducible first | exact HI0.out | apply IsS161.alloc | apply IsS161.drewN | apply IsS161.drew | apply IsS161.set_1 | refine IsS161.far ?_ NB0_180.out _ | refine IsS161.far ?_ NB0_181.out _) | exact HI0.out)); (case side2 => repeat (first | (with_reducible first | exact HB.out | apply below_alloc | apply pw_below_drewN | apply below_drew1 | refine below_set ?_ (IsS161.ge HI0.out) | refine below_set ?_ GE180.out | refine below_set ?_ GE181.out) | exact HB.out)); rintro e w8 ⟨rfl, hi, hb, hk⟩; refine ⟨_, rfl, ?_⟩; have n0_ := Aside0.mk (Kd.R_mono (Kd.R_keep (IsS161.apart (show IsS161 w0 _ g s0_0 s0_1 from by repeat (first | (with_reducible first | exact HI0.out | apply IsS161.alloc | apply IsS161.drewN | apply IsS161.drew | apply IsS161.set_1 | refine IsS161.far ?_ NB0_180.out _ | refine IsS161.far ?_ NB0_181.out _) | exact HI0.out)) (sqy HO1_1.out) (by decide)) hk (fun _ h => h.2)) (fun _ h => h.1)); have n1_ := Aside0.mk (KeepBut.blk hk (g' := gb180) (o := .cells #[.int .i64 a1_0, .slice Ao5 l1_1.length co5] 41 (0, 0)) (sqt BK180.out) NB180_0.out (by simp)); have n2_ := Aside0.mk (KeepBut.blk hk (g' := gb181) (o := .cells #[.int .i64 0, .slice none 0 0] 41 (0, 0)) (sqt BK181.out) NB181_0.out (by simp)); have n3_ := Aside0.mk (Kept.of_keep (S := (fun k_ => (P1_1_ k_) ∨ k_ = g)) (by repeat (first | (with_reducible first | exact HK.out | apply Kept.alloc | apply Kept.drewN | apply Kept.drew | refine Kept.setCell ?_ (.inl (.inr rfl)) _ | refine Kept.setCell ?_ (.inr GW180.out) _ | refine Kept.setCell ?_ (.inr GW181.out) _) | exact HK.out)) hk (.inl (.inr rfl))); have n4_ := Aside0.mk (hb); have n5_ := Aside0.mk (hi); clear HO1_1; clear BK180; clear BK181; clear HK; clear HB; clear HI0; have HO1_1 := n0_; have BK180 := n1_; have BK181 := n2_; have HK := n3_; have HB := n4_; have HI0 := n5_; clear n0_ n1_ n2_ n3_ n4_ n5_; (try clear hb); (try clear hb2); (try clear hk); (try clear hi)))
 (try simp only [Act.put, List.setIfInBounds_toArray, List.set_cons_zero, List.set_cons_succ])
 go_cut [] (fun wc => ∃ (kq : Nat) (x181000_3 : Int), Aside0 (spec_l11Spoilt.j0 kq t182 s0_0 t183 x181000_3 l1_1 = some (r1, r2, r3)) ∧ Aside0 (kq ≤ k) ∧ Aside0 (Kd.R (Kd.int .i64) 3 wc w0.heap.size (fun k_ => (P1_1_ k_ ∨ w.heap.size ≤ k_)) (.slice Ao5 l1_1.length co5) l1_1) ∧ Aside0 (wc.heap[gb180]? = some (.cells #[.int .i64 x181000_3, (.slice Ao5 l1_1.length co5)] 41 (0, 0))) ∧ Aside0 (wc.heap[gb181]? = some (.cells #[.int .i64 0, (.slice none 0 0)] 41 (0, 0))) ∧ Aside0 (IsS161 w0 wc g s0_0 t183) ∧ Aside0 (Kept w wc (fun k_ => (P1_1_ k_) ∨ k_ = g)) ∧ Aside0 (Below w0.heap.size w0 wc))
 case first =>
  have H := HC4.out
  clear HC4
  replace H := sqi H
  rcases H with ⟨c9, H⟩ | ⟨c9, H⟩
  ·have c9b0 : (t182 == 0) = false := beq_eq_false_iff_ne.mpr c9
   have c9b1 : (t182 != 0) = true := bne_iff_ne.mpr c9
   (first | rw [c9b0] | (simp only [i64_w, i32_w]; rw [c9b0]) | skip)
   have H' := Aside0.mk H
   clear H
   go_wp2
   go_meet
   case rel => exact ⟨_, (a1_0), H', ⟨by first | omega | exact Nat.le_refl _⟩, ⟨sqy HO1_1.out⟩, sqk BK180, sqk BK181, ⟨by repeat (first | (with_reducible first | exact HI0.out | apply IsS161.alloc | apply IsS161.drewN | apply IsS161.drew | apply IsS161.set_1 | refine IsS161.far ?_ NB0_180.out _ | refine IsS161.far ?_ NB0_181.out _) | exact HI0.out)⟩, ⟨by repeat (first | (with_reducible first | exact HK.out | apply Kept.alloc | apply Kept.drewN | apply Kept.drew | refine Kept.setCell ?_ (.inl (.inr rfl)) _ | refine Kept.setCell ?_ (.inr GW180.out) _ | refine Kept.setCell ?_ (.inr GW181.out) _) | exact HK.out)⟩, ⟨by repeat (first | (with_reducible first | exact HB.out | apply below_alloc | apply pw_below_drewN | apply below_drew1 | refine below_set ?_ (IsS161.ge HI0.out) | refine below_set ?_ GE180.out | refine below_set ?_ GE181.out) | exact HB.out)⟩⟩
  have c9b0 : (t182 == 0) = true := beq_iff_eq.mpr c9
  have c9b1 : (t182 != 0) = false := bne_eq_false_iff_eq.mpr c9
  clear c9
  (first | rw [c9b0] | (simp only [i64_w, i32_w]; rw [c9b0]) | skip)
  have H' := Aside0.mk H
  clear H
  have hnb10 := NB180_181.out
  have hnc10 := NB181_180.out
  have hnb11 := NB180_0.out
  have hnc11 := NB0_180.out
  obtain ⟨hcz12_0, hcz12_1, hfz12_0, hfz12_1⟩ := sqc2 BK180
  go_wp2
  go_meet
  case rel => exact ⟨_, (wrap64 (a1_0 + 1)), H', ⟨by first | omega | exact Nat.le_refl _⟩, ⟨by (with_reducible repeat (first | apply Kd.R_alloc | apply Kd.R_drewN | apply Kd.R_drew)); exact Kd.R_mono (Kd.R_far (p := ⟨gb180, 0, none⟩) (Kd.R_types HO1_1.out BK180.out (by decide)) (fun _ hk => hk.2) (.int .i64 (wrap64 (a1_0 + 1)))) (fun _ hk => hk.1)⟩, ⟨by refine sqt ?_; refine blk_put (cs := #[.int .i64 a1_0, .slice Ao5 l1_1.length co5]) ?_ 0 _ rfl; refine sqt ?_; exact BK180.out⟩, ⟨by refine sqt ?_; refine blk_far ?_ NB181_180.out _; refine sqt ?_; exact BK181.out⟩, ⟨by repeat (first | (with_reducible first | exact HI0.out | apply IsS161.alloc | apply IsS161.drewN | apply IsS161.drew | apply IsS161.set_1 | refine IsS161.far ?_ NB0_180.out _ | refine IsS161.far ?_ NB0_181.out _) | exact HI0.out)⟩, ⟨by repeat (first | (with_reducible first | exact HK.out | apply Kept.alloc | apply Kept.drewN | apply Kept.drew | refine Kept.setCell ?_ (.inl (.inr rfl)) _ | refine Kept.setCell ?_ (.inr GW180.out) _ | refine Kept.setCell ?_ (.inr GW181.out) _) | exact HK.out)⟩, ⟨by repeat (first | (with_reducible first | exact HB.out | apply below_alloc | apply pw_below_drewN | apply below_drew1 | refine below_set ?_ (IsS161.ge HI0.out) | refine below_set ?_ GE180.out | refine below_set ?_ GE181.out) | exact HB.out)⟩⟩
 case rest =>
  clear HC4
  obtain ⟨kq, x181000_3, HA, HJ3, HO_181001, BK180, BK181, HI0, HK, HB⟩ := hcut
  cases kq with
  | zero => exact absurd HA.out (by simp [spec_l11Spoilt.j0])
  | succ kj3 =>
   have H := HA.out
   clear HA
   simp only [spec_l11Spoilt.j0] at H
   have HC13 := Aside0.mk H
   clear H
   go_upto_if 15 with (fail)
   go_cut [] (fun wc => ∃ (kq : Nat) (x181001_12 : List Int) (u181001 : Value), Aside0 (spec_l11Spoilt.j1 kq t182 s0_0 t183 x181000_3 x181001_12 = some (r1, r2, r3)) ∧ Aside0 (kq ≤ kj3) ∧ Aside0 (Kd.R (Kd.int .i64) 3 wc w0.heap.size (fun k_ => (P1_1_ k_ ∨ w.heap.size ≤ k_)) u181001 x181001_12) ∧ Aside0 (wc.heap[gb180]? = some (.cells #[.int .i64 x181000_3, u181001] 41 (0, 0))) ∧ Aside0 (wc.heap[gb181]? = some (.cells #[.int .i64 0, (.slice none 0 0)] 41 (0, 0))) ∧ Aside0 (IsS161 w0 wc g s0_0 t183) ∧ Aside0 (Kept w wc (fun k_ => (P1_1_ k_) ∨ k_ = g)) ∧ Aside0 (Below w0.heap.size w0 wc))
   case first =>
    have H := HC13.out
    clear HC13
    replace H := sqi H
    rcases H with ⟨c14, H⟩ | ⟨c14, H⟩
    ·have c14b0 : (t182 == 1) = false := beq_eq_false_iff_ne.mpr c14
     have c14b1 : (t182 != 1) = true := bne_iff_ne.mpr c14
     (first | rw [c14b0] | (simp only [i64_w, i32_w]; rw [c14b0]) | skip)
     have H' := Aside0.mk H
     clear H
     go_wp2
     go_meet
     case rel => exact ⟨_, (l1_1), (.slice Ao5 l1_1.length co5), H', ⟨by have := HJ3.out; first | omega | exact Nat.le_refl _⟩, ⟨sqy HO_181001.out⟩, sqk BK180, sqk BK181, ⟨by repeat (first | (with_reducible first | exact HI0.out | apply IsS161.alloc | apply IsS161.drewN | apply IsS161.drew | apply IsS161.set_1 | refine IsS161.far ?_ NB0_180.out _ | refine IsS161.far ?_ NB0_181.out _) | exact HI0.out)⟩, ⟨by repeat (first | (with_reducible first | exact HK.out | apply Kept.alloc | apply Kept.drewN | apply Kept.drew | refine Kept.setCell ?_ (.inl (.inr rfl)) _ | refine Kept.setCell ?_ (.inr GW180.out) _ | refine Kept.setCell ?_ (.inr GW181.out) _) | exact HK.out)⟩, ⟨by repeat (first | (with_reducible first | exact HB.out | apply below_alloc | apply pw_below_drewN | apply below_drew1 | refine below_set ?_ (IsS161.ge HI0.out) | refine below_set ?_ GE180.out | refine below_set ?_ GE181.out) | exact HB.out)⟩⟩
    have c14b0 : (t182 == 1) = true := beq_iff_eq.mpr c14
    have c14b1 : (t182 != 1) = false := bne_eq_false_iff_eq.mpr c14
    clear c14
    (first | rw [c14b0] | (simp only [i64_w, i32_w]; rw [c14b0]) | skip)
    replace H := sqi H
    rcases H with ⟨c15, H⟩ | ⟨c15, H⟩
    ·exact absurd H (by simp)
    have LMc15 := Aside0.mk c15
    clear c15
    obtain ⟨y184, hy184⟩ : ∃ y_ : List Int, y_ = (l1_1 ++ [0]) := ⟨_, rfl⟩
    replace H : (spec_l11Spoilt.j1 kj3 t182 s0_0 t183 x181000_3 y184) = some (r1, r2, r3) := by first | (rw [hy184]; with_reducible exact H) | (have H2_ := (Option.bind_some _ _).symm.trans H; rw [hy184]; with_reducible exact H2_) | (have H2_ := (Option.bind_some _ _).symm.trans H; with_reducible exact H2_) | with_reducible exact H | (rw [hy184]; exact H) | exact H
    have Ny184 := Aside0.mk hy184
    clear hy184
    have H' := Aside0.mk H
    clear H
    have hnb16 := NB180_181.out
    have hnc16 := NB181_180.out
    have hnb17 := NB180_0.out
    have hnc17 := NB0_180.out
    obtain ⟨hcz18_0, hcz18_1, hfz18_0, hfz18_1⟩ := sqc2 BK180
    go_wp2_with (first | ((with_reducible refine gate_builtin (b := .append) (xs := #[.tmp 17, .tmp 18]) rfl ?_); (try (refine gate_guard (by rfl) ?_; dsimp only)); at_builtin; refine Kd.R_append (Kd.int .i64) (w0 := w0) w0.heap.size rfl (.tmp 17) (.tmp 18) 39 3 (.int .i64 0) 8 rfl Try.underlying39 info3 rfl (by decide) (by omega) (.slice Ao5 l1_1.length co5) l1_1 0 [.int .i64 0] (fun k_ => (P1_1_ k_ ∨ w.heap.size ≤ k_)) (fun _ => False) rfl rfl ?aP (fun _ hk => hk.elim) ?aF ?aO ?aB ?aS ?aL ?_; (case aP => exact rfl); (case aB => exact (by repeat (first | (with_reducible first | exact HB.out | apply below_alloc | apply pw_below_drewN | apply below_drew1 | refine below_set ?_ (IsS161.ge HI0.out) | refine below_set ?_ GE180.out | refine below_set ?_ GE181.out) | exact HB.out))); (case aF => exact (fun k_ hk => (.inr (Nat.le_trans (by first | exact HK.out.1 | exact (show Kept w _ (fun k_ => (P1_1_ k_) ∨ k_ = g) from by repeat (first | (with_reducible first | exact HK.out | apply Kept.alloc | apply Kept.drewN | apply Kept.drew | refine Kept.setCell ?_ (.inl (.inr rfl)) _ | refine Kept.setCell ?_ (.inr GW180.out) _ | refine Kept.setCell ?_ (.inr GW181.out) _) | exact HK.out)).1) hk)))); (case aO => exact (sqy HO_181001.out)); (case aS => exact (below_size (by repeat (first | (with_reducible first | exact HB.out | apply below_alloc | apply pw_below_drewN | apply below_drew1 | refine below_set ?_ (IsS161.ge HI0.out) | refine below_set ?_ GE180.out | refine below_set ?_ GE181.out) | exact HB.out)))); (case aL => have := LMc15.out; omega); intro v185 w19 ho hb hg hat; rw [← Ny184.out] at ho; have n0_ := Aside0.mk (blk_grown (g := gb180) (o := .cells #[.int .i64 x181000_3, .slice Ao5 l1_1.length co5] 41 (0, 0)) (sqt BK180.out) hg (Kd.R_ne HO_181001.out BK180.out (by decide))); have n1_ := Aside0.mk (blk_grown (g := gb181) (o := .cells #[.int .i64 0, .slice none 0 0] 41 (0, 0)) (sqt BK181.out) hg (Kd.R_ne HO_181001.out BK181.out (by decide))); have n2_ := Aside0.mk (IsS161.grown (by repeat (first | (with_reducible first | exact HI0.out | apply IsS161.alloc | apply IsS161.drewN | apply IsS161.drew | apply IsS161.set_1 | refine IsS161.far ?_ NB0_180.out _ | refine IsS161.far ?_ NB0_181.out _) | exact HI0.out)) hg (IsS161.own_ne HI0.out HO_181001.out (by decide))); have n3_ := Aside0.mk (hb); have n4_ := Aside0.mk (Kept.of_grown (S := (fun k_ => (P1_1_ k_) ∨ k_ = g)) hg (by repeat (first | (with_reducible first | exact HK.out | apply Kept.alloc | apply Kept.drewN | apply Kept.drew | refine Kept.setCell ?_ (.inl (.inr rfl)) _ | refine Kept.setCell ?_ (.inr GW180.out) _ | refine Kept.setCell ?_ (.inr GW181.out) _) | exact HK.out)) (fun k_ e_ => Or.imp_left Or.inl ((HO_181001.out.1 k_ e_)))); have n5_ := Aside0.mk (ho); clear BK180; clear BK181; clear HI0; clear HB; clear HK; clear HO_181001; have BK180 := n0_; have BK181 := n1_; have HI0 := n2_; have HB := n3_; have HK := n4_; have HO186 := n5_; clear n0_ n1_ n2_ n3_ n4_ n5_; clear ho hb hg hat; obtain ⟨Ao20, co20, eo20⟩ := Kd.R_slice HO186.out; subst eo20; obtain ⟨hcz21_0, hcz21_1, hfz21_0, hfz21_1⟩ := sqc2 BK180))
    go_meet
    case rel => exact ⟨_, (y184), (.slice Ao20 y184.length co20), H', ⟨by have := HJ3.out; first | omega | exact Nat.le_refl _⟩, ⟨by (with_reducible repeat (first | apply Kd.R_alloc | apply Kd.R_drewN | apply Kd.R_drew)); exact Kd.R_mono (Kd.R_far (p := ⟨gb180, 1, none⟩) (Kd.R_types HO186.out BK180.out (by decide)) (fun _ hk => hk.2) (.slice Ao20 y184.length co20)) (fun _ hk => hk.1)⟩, ⟨by refine sqt ?_; refine blk_put (cs := #[.int .i64 x181000_3, .slice Ao5 l1_1.length co5]) ?_ 1 _ rfl; refine sqt ?_; exact BK180.out⟩, ⟨by refine sqt ?_; refine blk_far ?_ NB181_180.out _; refine sqt ?_; exact BK181.out⟩, ⟨by repeat (first | (with_reducible first | exact HI0.out | apply IsS161.alloc | apply IsS161.drewN | apply IsS161.drew | apply IsS161.set_1 | refine IsS161.far ?_ NB0_180.out _ | refine IsS161.far ?_ NB0_181.out _) | exact HI0.out)⟩, ⟨by repeat (first | (with_reducible first | exact HK.out | apply Kept.alloc | apply Kept.drewN | apply Kept.drew | refine Kept.setCell ?_ (.inl (.inr rfl)) _ | refine Kept.setCell ?_ (.inr GW180.out) _ | refine Kept.setCell ?_ (.inr GW181.out) _) | exact HK.out)⟩, ⟨by repeat (first | (with_reducible first | exact HB.out | apply below_alloc | apply pw_below_drewN | apply below_drew1 | refine below_set ?_ (IsS161.ge HI0.out) | refine below_set ?_ GE180.out | refine below_set ?_ GE181.out) | exact HB.out)⟩⟩
   case rest =>
    clear HC13
    obtain ⟨kq, x181001_12, u181001, HA, HJ12, HO_181001, BK180, BK181, HI0, HK, HB⟩ := hcut
    cases kq with
    | zero => exact absurd HA.out (by simp [spec_l11Spoilt.j1])
    | succ kj12 =>
     have H := HA.out
     clear HA
     simp only [spec_l11Spoilt.j1] at H
     have HC22 := Aside0.mk H
     clear H
     go_upto_region 6 with (fail)
     go_cut [28] (fun v28 wc => ∃ (kq : Nat) (x28_21 : Bool), v28 = .bool x28_21 ∧ Aside0 (spec_l11Spoilt.j2 kq x28_21 s0_0 t183 x181000_3 x181001_12 = some (r1, r2, r3)) ∧ Aside0 (kq ≤ kj12) ∧ Aside0 (Kd.R (Kd.int .i64) 3 wc w0.heap.size (fun k_ => (P1_1_ k_ ∨ w.heap.size ≤ k_)) u181001 x181001_12) ∧ Aside0 (wc.heap[gb180]? = some (.cells #[.int .i64 x181000_3, u181001] 41 (0, 0))) ∧ Aside0 (wc.heap[gb181]? = some (.cells #[.int .i64 0, (.slice none 0 0)] 41 (0, 0))) ∧ Aside0 (IsS161 w0 wc g s0_0 t183) ∧ Aside0 (Kept w wc (fun k_ => (P1_1_ k_) ∨ k_ = g)) ∧ Aside0 (Below w0.heap.size w0 wc))
     case first =>
      have H := HC22.out
      clear HC22
      replace H := sqi H
      rcases H with ⟨c23, H⟩ | ⟨c23, H⟩
      ·have c23b0 : (t182 == 2) = false := beq_eq_false_iff_ne.mpr c23
       have c23b1 : (t182 != 2) = true := bne_iff_ne.mpr c23
       (first | rw [c23b0] | (simp only [i64_w, i32_w]; rw [c23b0]) | skip)
       have H' := Aside0.mk H
       clear H
       go_wp2
       go_meet
       case rel => exact ⟨_, (false), (by first | rfl | (simp; done) | (simp [*]; done)), H', ⟨by have := HJ3.out; have := HJ12.out; first | omega | exact Nat.le_refl _⟩, ⟨sqy HO_181001.out⟩, sqk BK180, sqk BK181, ⟨by repeat (first | (with_reducible first | exact HI0.out | apply IsS161.alloc | apply IsS161.drewN | apply IsS161.drew | apply IsS161.set_1 | refine IsS161.far ?_ NB0_180.out _ | refine IsS161.far ?_ NB0_181.out _) | exact HI0.out)⟩, ⟨by repeat (first | (with_reducible first | exact HK.out | apply Kept.alloc | apply Kept.drewN | apply Kept.drew | refine Kept.setCell ?_ (.inl (.inr rfl)) _ | refine Kept.setCell ?_ (.inr GW180.out) _ | refine Kept.setCell ?_ (.inr GW181.out) _) | exact HK.out)⟩, ⟨by repeat (first | (with_reducible first | exact HB.out | apply below_alloc | apply pw_below_drewN | apply below_drew1 | refine below_set ?_ (IsS161.ge HI0.out) | refine below_set ?_ GE180.out | refine below_set ?_ GE181.out) | exact HB.out)⟩⟩
      have c23b0 : (t182 == 2) = true := beq_iff_eq.mpr c23
      have c23b1 : (t182 != 2) = false := bne_eq_false_iff_eq.mpr c23
      clear c23
      (first | rw [c23b0] | (simp only [i64_w, i32_w]; rw [c23b0]) | skip)
      have H' := Aside0.mk H
      clear H
      have hnb24 := NB180_181.out
      have hnc24 := NB181_180.out
      have hnb25 := NB180_0.out
      have hnc25 := NB0_180.out
      obtain ⟨hcz26_0, hcz26_1, hfz26_0, hfz26_1⟩ := sqc2 BK180
      obtain ⟨Ao27, co27, eo27⟩ := Kd.R_slice HO_181001.out
      subst eo27
      go_wp2
      go_meet
      case rel => exact ⟨_, (decide ((x181001_12.length : Int) > 0)), (by first | rfl | (simp; done) | (simp [*]; done)), H', ⟨by have := HJ3.out; have := HJ12.out; first | omega | exact Nat.le_refl _⟩, ⟨sqy HO_181001.out⟩, sqk BK180, sqk BK181, ⟨by repeat (first | (with_reducible first | exact HI0.out | apply IsS161.alloc | apply IsS161.drewN | apply IsS161.drew | apply IsS161.set_1 | refine IsS161.far ?_ NB0_180.out _ | refine IsS161.far ?_ NB0_181.out _) | exact HI0.out)⟩, ⟨by repeat (first | (with_reducible first | exact HK.out | apply Kept.alloc | apply Kept.drewN | apply Kept.drew | refine Kept.setCell ?_ (.inl (.inr rfl)) _ | refine Kept.setCell ?_ (.inr GW180.out) _ | refine Kept.setCell ?_ (.inr GW181.out) _) | exact HK.out)⟩, ⟨by repeat (first | (with_reducible first | exact HB.out | apply below_alloc | apply pw_below_drewN | apply below_drew1 | refine below_set ?_ (IsS161.ge HI0.out) | refine below_set ?_ GE180.out | refine below_set ?_ GE181.out) | exact HB.out)⟩⟩
     case rest =>
      clear HC22
      obtain ⟨kq, x28_21, rfl, HA, HJ21, HO_181001, BK180, BK181, HI0, HK, HB⟩ := hcut
      cases kq with
      | zero => exact absurd HA.out (by simp [spec_l11Spoilt.j2])
      | succ kj21 =>
       have H := HA.out
       clear HA
       simp only [spec_l11Spoilt.j2] at H
       rcases sqI (x28_21 = true) with c28 | c28
       ·replace c28 := Bool.eq_false_iff.mpr c28
        subst c28
        have H1 : (some (x181000_3, x181001_12, t183)) = some (r1, r2, r3) := by rw [if_neg (show ¬ (false = true) by decide)] at H; exact H
        clear H
        have H := H1
        clear H1
        simp only [Option.some.injEq, Prod.mk.injEq] at H
        obtain ⟨rfl, rfl, rfl⟩ := H
        have hnb52 := NB180_181.out
        have hnc52 := NB181_180.out
        have hnb53 := NB180_0.out
        have hnc53 := NB0_180.out
        obtain ⟨hcz54_0, hcz54_1, hfz54_0, hfz54_1⟩ := sqc2 BK180
        have hnb55 := NB181_0.out
        have hnc55 := NB0_181.out
        obtain ⟨hcz56_0, hcz56_1, hfz56_0, hfz56_1⟩ := sqc2 BK181
        obtain ⟨Ao57, co57, eo57⟩ := Kd.R_slice HO_181001.out
        subst eo57
        go_wp2
        refine bodyPost_ret (results_cell_row rfl _ _ gb181 41 #[.int .i64 x181000_3, .slice Ao57 x181001_12.length co57] (0, 0) _ rfl (by refine sqt ?_; refine blk_put (cs := #[.int .i64 x181000_3, .slice none 0 0]) ?_ 1 _ rfl; refine sqt ?_; refine blk_put (cs := #[.int .i64 0, .slice none 0 0]) ?_ 0 _ rfl; refine sqt ?_; exact BK181.out) Try.underlying41 rfl (by kernel_rfl)) rfl ?_
        exact ⟨_, by first | rfl | (simp [errW_none, errW_some] <;> rfl) | (simp [*, errW_none, errW_some] <;> rfl), by (with_reducible repeat (first | apply Kd.R_alloc | apply Kd.R_drewN | apply Kd.R_drew)); exact Kd.R_mono (Kd.R_far (p := ⟨gb181, 1, none⟩) (Kd.R_far (p := ⟨gb181, 0, none⟩) (Kd.R_types HO_181001.out BK181.out (by decide)) (fun _ hk => hk.2) (.int .i64 x181000_3)) (fun _ hk => hk.2) (.slice Ao57 x181001_12.length co57)) (fun _ hk => hk.1), by repeat (first | (with_reducible first | exact HI0.out | apply IsS161.alloc | apply IsS161.drewN | apply IsS161.drew | apply IsS161.set_1 | refine IsS161.far ?_ NB0_180.out _ | refine IsS161.far ?_ NB0_181.out _) | exact HI0.out), by repeat (first | (with_reducible first | exact HB.out | apply below_alloc | apply pw_below_drewN | apply below_drew1 | refine below_set ?_ (IsS161.ge HI0.out) | refine below_set ?_ GE180.out | refine below_set ?_ GE181.out) | exact HB.out), by repeat (first | (with_reducible first | exact HK.out | apply Kept.alloc | apply Kept.drewN | apply Kept.drew | refine Kept.setCell ?_ (.inl (.inr rfl)) _ | refine Kept.setCell ?_ (.inr GW180.out) _ | refine Kept.setCell ?_ (.inr GW181.out) _) | exact HK.out)⟩
       subst c28
       have H1 : ((spec_l1Rd_pick.f kj21 s0_0 t183 (x181001_12.length : Int)).bind fun bt187 => ((some (([1099511627776, 1099511627777, (-1099511627776), (-1099511627777), 1] : List Int) : List Int)).bind fun y189 => ((spec_l1Rd_pick.f kj21 s0_0 bt187.2 5).bind fun bt192 => (if 0 ≤ bt192.1 then (if bt192.1 < (y189.length : Int) then (if 0 ≤ bt187.1 then (if bt187.1 < (x181001_12.length : Int) then (some (x181000_3, (x181001_12.set (bt187.1 : Int).toNat (rd y189 bt192.1)), bt192.2)) else (none)) else (none)) else (none)) else (none))))) = some (r1, r2, r3) := by rw [if_pos rfl] at H; exact H
       clear H
       have H := H1
       clear H1
       replace H := sqbi H
       obtain ⟨⟨t187, t188⟩, A29, H⟩ := H
       replace H : ((some (([1099511627776, 1099511627777, (-1099511627776), (-1099511627777), 1] : List Int) : List Int)).bind fun y189 => ((spec_l1Rd_pick.f kj21 s0_0 t188 5).bind fun bt192 => (if 0 ≤ bt192.1 then (if bt192.1 < (y189.length : Int) then (if 0 ≤ t187 then (if t187 < (x181001_12.length : Int) then (some (x181000_3, (x181001_12.set (t187 : Int).toNat (rd y189 bt192.1)), bt192.2)) else (none)) else (none)) else (none)) else (none)))) = some (r1, r2, r3) := H
       obtain ⟨y189, hy189⟩ : ∃ y_ : List Int, y_ = (([1099511627776, 1099511627777, (-1099511627776), (-1099511627777), 1] : List Int)) := ⟨_, rfl⟩
       replace H : ((spec_l1Rd_pick.f kj21 s0_0 t188 5).bind fun bt192 => (if 0 ≤ bt192.1 then (if bt192.1 < (y189.length : Int) then (if 0 ≤ t187 then (if t187 < (x181001_12.length : Int) then (some (x181000_3, (x181001_12.set (t187 : Int).toNat (rd y189 bt192.1)), bt192.2)) else (none)) else (none)) else (none)) else (none))) = some (r1, r2, r3) := by first | (rw [hy189]; with_reducible exact H) | (have H2_ := (Option.bind_some _ _).symm.trans H; rw [hy189]; with_reducible exact H2_) | (have H2_ := (Option.bind_some _ _).symm.trans H; with_reducible exact H2_) | with_reducible exact H | (rw [hy189]; exact H) | exact H
       have Ny189 := Aside0.mk hy189
       clear hy189
       replace H := sqbi H
       obtain ⟨⟨t192, t193⟩, A30, H⟩ := H
       replace H : (if 0 ≤ t192 then (if t192 < (y189.length : Int) then (if 0 ≤ t187 then (if t187 < (x181001_12.length : Int) then (some (x181000_3, (x181001_12.set (t187 : Int).toNat (rd y189 t192)), t193)) else (none)) else (none)) else (none)) else (none)) = some (r1, r2, r3) := H
       replace H := sqi H
       rcases H with ⟨c31, H⟩ | ⟨c31, H⟩
       ·exact absurd H (by simp)
       have c31b0 := decide_eq_true c31
       clear c31
       replace H := sqi H
       rcases H with ⟨c32, H⟩ | ⟨c32, H⟩
       ·exact absurd H (by simp)
       have c32b0 := decide_eq_true c32
       clear c32
       replace H := sqi H
       rcases H with ⟨c33, H⟩ | ⟨c33, H⟩
       ·exact absurd H (by simp)
       have c33b0 := decide_eq_true c33
       clear c33
       replace H := sqi H
       rcases H with ⟨c34, H⟩ | ⟨c34, H⟩
       ·exact absurd H (by simp)
       have c34b0 := decide_eq_true c34
       clear c34
       obtain ⟨y195, hy195⟩ : ∃ y_ : List Int, y_ = (x181001_12.set (t187 : Int).toNat (rd y189 t192)) := ⟨_, rfl⟩
       replace H : (some (x181000_3, y195, t193)) = some (r1, r2, r3) := by first | (rw [hy195]; with_reducible exact H) | (have H2_ := (Option.bind_some _ _).symm.trans H; rw [hy195]; with_reducible exact H2_) | (have H2_ := (Option.bind_some _ _).symm.trans H; with_reducible exact H2_) | with_reducible exact H | (rw [hy195]; exact H) | exact H
       have Ny195 := Aside0.mk hy195
       clear hy195
       simp only [Option.some.injEq, Prod.mk.injEq] at H
       obtain ⟨rfl, rfl, rfl⟩ := H
       try go_wp2
       have pi194 : (0 ≤ (t192 : Int)) = True := eq_true sqd
       have qi194 : (t192 < (y189.length : Int)) = True := eq_true sqd
       replace HO_181001 := Aside0.mk (Kd.R_drew HO_181001.out)
       replace BK180 := Aside0.mk (blk_drew BK180.out)
       replace BK181 := Aside0.mk (blk_drew BK181.out)
       replace HI0 := Aside0.mk (IsS161.drew HI0.out)
       replace HK := Aside0.mk (Kept.drew HK.out)
       replace HB := Aside0.mk (below_drew1 HB.out)
       obtain ⟨Ao37, co37, eo37⟩ := Kd.R_slice HO_181001.out
       (first | subst eo37 | (injection eo37 with f1_ f2_ f3_; have f4_ := f1_.symm; have f5_ := f3_.symm; clear f1_ f2_ f3_; subst f4_; subst f5_))
       refine start_ (n := 14) (S := fun w' => w'.cell? ⟨gb180, 0, none⟩ = some (.int .i64 x181000_3) ∧ w'.cell? ⟨gb180, 1, none⟩ = some (.slice Ao37 x181001_12.length co37)) (ds := [13]) #[false, false, false, false, false, false, false, false, false, false, false, false, false, false] (by kernel_rfl) rfl rfl sqz (fun hHeld => ?_); refine with_tabW spec_l11Spoilt.tab7 spec_l11Spoilt.bits7 (fun HT_ HW_ => ?_)
       generalize wc.drew = w36 at HO_181001 BK180 BK181 HI0 HK HB hHeld ⊢
       refine sqp HT_ 0 29 ?_
       refine sqp HT_ 2 31 ?_
       refine sqp HT_ 3 32 ?_
       refine sqp HT_ 8 37 ?_
       refine sqw HT_ HW_ 1 30 hHeld ?_
       refine sqw HT_ HW_ 4 33 hHeld ?_
       refine sqp HT_ 5 34 ?_
       refine join_ (σ := Value × Addr) 4 #[true, true, true, true, true, true, true, true, true, true, false, false, false, false] (fun s_ => [(35, .int .i64 t187), (36, s_.1), (38, .int .i64 t192)]) (fun s_ w' => (w'.cell? ⟨gb180, 0, none⟩ = some (.int .i64 x181000_3) ∧ w'.cell? ⟨gb180, 1, none⟩ = some (.slice Ao37 x181001_12.length co37)) ∧ (Kd.R (Kd.int .i64) 3 w' w0.heap.size (fun k_ => (P1_1_ k_ ∨ w.heap.size ≤ k_) ∧ some k_ ≠ (.slice Ao37 x181001_12.length co37 : Value).ownBlock) s_.1 y189) ∧ (Kd.R (Kd.int .i64) 3 w' w0.heap.size (fun k_ => (P1_1_ k_ ∨ w.heap.size ≤ k_) ∧ some k_ ≠ (s_.1 : Value).ownBlock) (.slice Ao37 x181001_12.length co37) x181001_12) ∧ (∃ c_, (s_.1 : Value) = .slice (some s_.2) y189.length c_) ∧ (w'.heap[gb180]? = some (.cells #[.int .i64 x181000_3, .slice Ao37 x181001_12.length co37] 41 (0, 0))) ∧ (w'.heap[gb181]? = some (.cells #[.int .i64 0, .slice none 0 0] 41 (0, 0))) ∧ (IsS161 w0 w' g s0_0 t193) ∧ (Kept w w' (fun k_ => (P1_1_ k_) ∨ k_ = g)) ∧ (Below w0.heap.size w0 w')) ?_ ?_
       rotate_left
       ·intro hCont
        refine two_ (i := 6) (j := 7) (Ni := some 35) (Nj := some 36) #[true, true, true, true, true, true, true, false, true, false, false, false, false, false] #[true, true, true, true, true, true, false, true, true, false, false, false, false, false] rfl rfl rfl rfl (two_of HT_.out (by kernel_rfl)) (by decide) (by decide) (fun K hK => ?_) (fun K hK => ?_)
        ·skip
         refine sqG Try.func109 #[.pointer (some ⟨g, 0, none⟩), .int .i64 (x181001_12.length : Int)] ?_
         with_reducible refine (spec_l1Rd_pick.calls kj21 g s0_0 t183 (x181001_12.length : Int) t187 t188 w0 _ ?side1 ?side2 A29.out).mono ?_
         (case side1 => repeat (first | (with_reducible first | exact HI0.out | apply IsS161.alloc | apply IsS161.drewN | apply IsS161.drew | apply IsS161.set_1 | refine IsS161.far ?_ NB0_180.out _ | refine IsS161.far ?_ NB0_181.out _) | exact HI0.out))
         (case side2 => repeat (first | (with_reducible first | exact HB.out | apply below_alloc | apply pw_below_drewN | apply below_drew1 | refine below_set ?_ (IsS161.ge HI0.out) | refine below_set ?_ GE180.out | refine below_set ?_ GE181.out) | exact HB.out))
         rintro e w38 ⟨rfl, hi, hb, hk⟩
         refine ⟨_, rfl, ?_⟩
         have n0_ := Aside0.mk (Kd.R_mono (Kd.R_keep (IsS161.apart (show IsS161 w0 _ g s0_0 t183 from by repeat (first | (with_reducible first | exact HI0.out | apply IsS161.alloc | apply IsS161.drewN | apply IsS161.drew | apply IsS161.set_1 | refine IsS161.far ?_ NB0_180.out _ | refine IsS161.far ?_ NB0_181.out _) | exact HI0.out)) (sqy HO_181001.out) (by decide)) hk (fun _ h => h.2)) (fun _ h => h.1))
         have n1_ := Aside0.mk (KeepBut.blk hk (g' := gb180) (o := .cells #[.int .i64 x181000_3, .slice Ao37 x181001_12.length co37] 41 (0, 0)) (sqt BK180.out) NB180_0.out (by simp))
         have n2_ := Aside0.mk (KeepBut.blk hk (g' := gb181) (o := .cells #[.int .i64 0, .slice none 0 0] 41 (0, 0)) (sqt BK181.out) NB181_0.out (by simp))
         have n3_ := Aside0.mk (Kept.of_keep (S := (fun k_ => (P1_1_ k_) ∨ k_ = g)) (by repeat (first | (with_reducible first | exact HK.out | apply Kept.alloc | apply Kept.drewN | apply Kept.drew | refine Kept.setCell ?_ (.inl (.inr rfl)) _ | refine Kept.setCell ?_ (.inr GW180.out) _ | refine Kept.setCell ?_ (.inr GW181.out) _) | exact HK.out)) hk (.inl (.inr rfl)))
         have n4_ := Aside0.mk (hb)
         have n5_ := Aside0.mk (hi)
         clear HO_181001
         clear BK180
         clear BK181
         clear HK
         clear HB
         clear HI0
         have HO_181001 := n0_
         have BK180 := n1_
         have BK181 := n2_
         have HK := n3_
         have HB := n4_
         have HI0 := n5_
         clear n0_ n1_ n2_ n3_ n4_ n5_
         (try clear hb)
         (try clear hb2)
         (try clear hk)
         (try clear hi)
         refine hK.out _ _ sqz (fun hHeld => ?_)
         clear hK K
         refine sqnm ?_
         refine two_ (i := 7) (j := 9) (Ni := some 36) (Nj := some 38) #[true, true, true, true, true, true, true, true, true, false, false, false, false, false] #[true, true, true, true, true, true, true, false, true, true, false, false, false, false] rfl rfl rfl rfl (two_of HT_.out (by kernel_rfl)) (by decide) (by decide) (fun K hK => ?_) (fun K hK => ?_)
         ·skip
          refine Kd.R_lit_step (Kd.int .i64) _ 3 ?hg (N := 36) ?hd (xs := ([1099511627776, 1099511627777, (-1099511627776), (-1099511627777), 1] : List Int)) (inner := [.int .i64 1099511627776, .int .i64 1099511627777, .int .i64 (-1099511627776), .int .i64 (-1099511627777), .int .i64 1]) (ok := fun _ => True) (okp := fun _ => True) ?hr ?hp (fun _ hk => hk) trivial (Below.refl _ _) (Nat.le_refl _) (by simp) ?_; (case hd => rfl); (case hg => rfl); (case hr => first | (go_simp; done) | (go_simp; rfl)); (case hp => exact (Reps.one (show Kd.M (Kd.int .i64) _ _ _ 1099511627776 [.int .i64 1099511627776] from rfl) (Reps.one (show Kd.M (Kd.int .i64) _ _ _ 1099511627777 [.int .i64 1099511627777] from rfl) (Reps.one (show Kd.M (Kd.int .i64) _ _ _ (-1099511627776) [.int .i64 (-1099511627776)] from rfl) (Reps.one (show Kd.M (Kd.int .i64) _ _ _ (-1099511627777) [.int .i64 (-1099511627777)] from rfl) (Reps.one (show Kd.M (Kd.int .i64) _ _ _ 1 [.int .i64 1] from rfl) (Reps.none _ _)))))))
          intro v190 w39 ho40 hb hg_ hnew_
          clear hg_ hnew_
          (first | rw [← Ny189.out] at ho40 | (simp only [Int.reduceToNat] at ho40; rw [← Ny189.out] at ho40))
          have n0_ := Aside0.mk (Kd.R_elder' (sqy HO_181001.out) (Kd.R_base ho40) hb)
          have n1_ := Aside0.mk (Kd.R_lower (Kd.R_new' (Kd.R_newM (M := fun k_ => (P1_1_ k_ ∨ w.heap.size ≤ k_)) ho40 (by first | exact HK.out.1 | exact (show Kept w _ (fun k_ => (P1_1_ k_) ∨ k_ = g) from by repeat (first | (with_reducible first | exact HK.out | apply Kept.alloc | apply Kept.drewN | apply Kept.drew | refine Kept.setCell ?_ (.inl (.inr rfl)) _ | refine Kept.setCell ?_ (.inr GW180.out) _ | refine Kept.setCell ?_ (.inr GW181.out) _) | exact HK.out)).1) (fun k_ h_ => .inr h_)) (Kd.R_lt (sqy HO_181001.out))) (below_size (by repeat (first | (with_reducible first | exact HB.out | apply below_alloc | apply pw_below_drewN | apply below_drew1 | refine below_set ?_ (IsS161.ge HI0.out) | refine below_set ?_ GE180.out | refine below_set ?_ GE181.out) | exact HB.out))))
          have n2_ := sqb BK180 hb
          have n3_ := sqb BK181 hb
          have n4_ := Aside0.mk (IsS161.below (by repeat (first | (with_reducible first | exact HI0.out | apply IsS161.alloc | apply IsS161.drewN | apply IsS161.drew | apply IsS161.set_1 | refine IsS161.far ?_ NB0_180.out _ | refine IsS161.far ?_ NB0_181.out _) | exact HI0.out)) hb)
          have n5_ := Aside0.mk (Kept.below (S := (fun k_ => (P1_1_ k_) ∨ k_ = g)) (by repeat (first | (with_reducible first | exact HK.out | apply Kept.alloc | apply Kept.drewN | apply Kept.drew | refine Kept.setCell ?_ (.inl (.inr rfl)) _ | refine Kept.setCell ?_ (.inr GW180.out) _ | refine Kept.setCell ?_ (.inr GW181.out) _) | exact HK.out)) hb)
          have n6_ := Aside0.mk (below_step (by repeat (first | (with_reducible first | exact HB.out | apply below_alloc | apply pw_below_drewN | apply below_drew1 | refine below_set ?_ (IsS161.ge HI0.out) | refine below_set ?_ GE180.out | refine below_set ?_ GE181.out) | exact HB.out)) hb)
          clear HO_181001
          clear BK180
          clear BK181
          clear HI0
          clear HK
          clear HB
          have HO_181001 := n0_
          have HO191 := n1_
          have BK180 := n2_
          have BK181 := n3_
          have HI0 := n4_
          have HK := n5_
          have HB := n6_
          clear n0_ n1_ n2_ n3_ n4_ n5_ n6_
          clear hb ho40
          obtain ⟨Ao41, co41, eo41⟩ := Kd.R_slice HO191.out
          subst eo41
          obtain ⟨ado41, fo41, _⟩ := Kd.at_int (Kd.R_reads' HO191.out).2.2 0 (by decide) (by rw [Ny189.out]; simp)
          cases fo41
          refine hK.out _ _ sqz (fun hHeld => ?_)
          clear hK K
          refine sqnm ?_
          refine sqo HT_ 9 38 (fun K hK => ?_)
          refine sqG Try.func109 #[.pointer (some ⟨g, 0, none⟩), .int .i64 5] ?_
          with_reducible refine (spec_l1Rd_pick.calls kj21 g s0_0 t188 5 t192 t193 w0 _ ?side1 ?side2 A30.out).mono ?_
          (case side1 => repeat (first | (with_reducible first | exact HI0.out | apply IsS161.alloc | apply IsS161.drewN | apply IsS161.drew | apply IsS161.set_1 | refine IsS161.far ?_ NB0_180.out _ | refine IsS161.far ?_ NB0_181.out _) | exact HI0.out))
          (case side2 => repeat (first | (with_reducible first | exact HB.out | apply below_alloc | apply pw_below_drewN | apply below_drew1 | refine below_set ?_ (IsS161.ge HI0.out) | refine below_set ?_ GE180.out | refine below_set ?_ GE181.out) | exact HB.out))
          rintro e w42 ⟨rfl, hi, hb, hk⟩
          refine ⟨_, rfl, ?_⟩
          have n0_ := Aside0.mk (Kd.R_mono (Kd.R_keep (IsS161.apart (show IsS161 w0 _ g s0_0 t188 from by repeat (first | (with_reducible first | exact HI0.out | apply IsS161.alloc | apply IsS161.drewN | apply IsS161.drew | apply IsS161.set_1 | refine IsS161.far ?_ NB0_180.out _ | refine IsS161.far ?_ NB0_181.out _) | exact HI0.out)) (sqy HO_181001.out) (by decide)) hk (fun _ h => h.2)) (fun _ h => h.1))
          have n1_ := Aside0.mk (KeepBut.blk hk (g' := gb180) (o := .cells #[.int .i64 x181000_3, .slice Ao37 x181001_12.length co37] 41 (0, 0)) (sqt BK180.out) NB180_0.out (by simp))
          have n2_ := Aside0.mk (KeepBut.blk hk (g' := gb181) (o := .cells #[.int .i64 0, .slice none 0 0] 41 (0, 0)) (sqt BK181.out) NB181_0.out (by simp))
          have n3_ := Aside0.mk (Kd.R_mono (Kd.R_keep (IsS161.apart (show IsS161 w0 _ g s0_0 t188 from by repeat (first | (with_reducible first | exact HI0.out | apply IsS161.alloc | apply IsS161.drewN | apply IsS161.drew | apply IsS161.set_1 | refine IsS161.far ?_ NB0_180.out _ | refine IsS161.far ?_ NB0_181.out _) | exact HI0.out)) (sqy HO191.out) (by decide)) hk (fun _ h => h.2)) (fun _ h => h.1))
          have n4_ := Aside0.mk (Kept.of_keep (S := (fun k_ => (P1_1_ k_) ∨ k_ = g)) (by repeat (first | (with_reducible first | exact HK.out | apply Kept.alloc | apply Kept.drewN | apply Kept.drew | refine Kept.setCell ?_ (.inl (.inr rfl)) _ | refine Kept.setCell ?_ (.inr GW180.out) _ | refine Kept.setCell ?_ (.inr GW181.out) _) | exact HK.out)) hk (.inl (.inr rfl)))
          have n5_ := Aside0.mk (hb)
          have n6_ := Aside0.mk (hi)
          clear HO_181001
          clear BK180
          clear BK181
          clear HO191
          clear HK
          clear HB
          clear HI0
          have HO_181001 := n0_
          have BK180 := n1_
          have BK181 := n2_
          have HO191 := n3_
          have HK := n4_
          have HB := n5_
          have HI0 := n6_
          clear n0_ n1_ n2_ n3_ n4_ n5_ n6_
          (try clear hb)
          (try clear hb2)
          (try clear hk)
          (try clear hi)
          refine hK.out _ _ sqz (fun hHeld => ?_)
          clear hK K
          refine sqnm ?_
          exact norm_ sqnn (hCont (.slice (some ado41) y189.length co41, ado41) _ ⟨hHeld, (by (with_reducible repeat (first | apply Kd.R_alloc | apply Kd.R_drewN | apply Kd.R_drew)); exact Kd.R_mono HO191.out (fun _ hk => ⟨hk.1.1, hk.2⟩)), (sqy HO_181001.out), ⟨_, rfl⟩, (sqt BK180.out), (sqt BK181.out), (by repeat (first | (with_reducible first | exact HI0.out | apply IsS161.alloc | apply IsS161.drewN | apply IsS161.drew | apply IsS161.set_1 | refine IsS161.far ?_ NB0_180.out _ | refine IsS161.far ?_ NB0_181.out _) | exact HI0.out)), (by repeat (first | (with_reducible first | exact HK.out | apply Kept.alloc | apply Kept.drewN | apply Kept.drew | refine Kept.setCell ?_ (.inl (.inr rfl)) _ | refine Kept.setCell ?_ (.inr GW180.out) _ | refine Kept.setCell ?_ (.inr GW181.out) _) | exact HK.out)), (by repeat (first | (with_reducible first | exact HB.out | apply below_alloc | apply pw_below_drewN | apply below_drew1 | refine below_set ?_ (IsS161.ge HI0.out) | refine below_set ?_ GE180.out | refine below_set ?_ GE181.out) | exact HB.out))⟩)
         ·skip
          refine sqG Try.func109 #[.pointer (some ⟨g, 0, none⟩), .int .i64 5] ?_
          with_reducible refine (spec_l1Rd_pick.calls kj21 g s0_0 t188 5 t192 t193 w0 _ ?side1 ?side2 A30.out).mono ?_
          (case side1 => repeat (first | (with_reducible first | exact HI0.out | apply IsS161.alloc | apply IsS161.drewN | apply IsS161.drew | apply IsS161.set_1 | refine IsS161.far ?_ NB0_180.out _ | refine IsS161.far ?_ NB0_181.out _) | exact HI0.out))
          (case side2 => repeat (first | (with_reducible first | exact HB.out | apply below_alloc | apply pw_below_drewN | apply below_drew1 | refine below_set ?_ (IsS161.ge HI0.out) | refine below_set ?_ GE180.out | refine below_set ?_ GE181.out) | exact HB.out))
          rintro e w39 ⟨rfl, hi, hb, hk⟩
          refine ⟨_, rfl, ?_⟩
          have n0_ := Aside0.mk (Kd.R_mono (Kd.R_keep (IsS161.apart (show IsS161 w0 _ g s0_0 t188 from by repeat (first | (with_reducible first | exact HI0.out | apply IsS161.alloc | apply IsS161.drewN | apply IsS161.drew | apply IsS161.set_1 | refine IsS161.far ?_ NB0_180.out _ | refine IsS161.far ?_ NB0_181.out _) | exact HI0.out)) (sqy HO_181001.out) (by decide)) hk (fun _ h => h.2)) (fun _ h => h.1))
          have n1_ := Aside0.mk (KeepBut.blk hk (g' := gb180) (o := .cells #[.int .i64 x181000_3, .slice Ao37 x181001_12.length co37] 41 (0, 0)) (sqt BK180.out) NB180_0.out (by simp))
          have n2_ := Aside0.mk (KeepBut.blk hk (g' := gb181) (o := .cells #[.int .i64 0, .slice none 0 0] 41 (0, 0)) (sqt BK181.out) NB181_0.out (by simp))
          have n3_ := Aside0.mk (Kept.of_keep (S := (fun k_ => (P1_1_ k_) ∨ k_ = g)) (by repeat (first | (with_reducible first | exact HK.out | apply Kept.alloc | apply Kept.drewN | apply Kept.drew | refine Kept.setCell ?_ (.inl (.inr rfl)) _ | refine Kept.setCell ?_ (.inr GW180.out) _ | refine Kept.setCell ?_ (.inr GW181.out) _) | exact HK.out)) hk (.inl (.inr rfl)))
          have n4_ := Aside0.mk (hb)
          have n5_ := Aside0.mk (hi)
          clear HO_181001
          clear BK180
          clear BK181
          clear HK
          clear HB
          clear HI0
          have HO_181001 := n0_
          have BK180 := n1_
          have BK181 := n2_
          have HK := n3_
          have HB := n4_
          have HI0 := n5_
          clear n0_ n1_ n2_ n3_ n4_ n5_
          (try clear hb)
          (try clear hb2)
          (try clear hk)
          (try clear hi)
          refine hK.out _ _ sqz (fun hHeld => ?_)
          clear hK K
          refine sqnm ?_
          refine sqo HT_ 7 36 (fun K hK => ?_)
          refine Kd.R_lit_step (Kd.int .i64) _ 3 ?hg (N := 36) ?hd (xs := ([1099511627776, 1099511627777, (-1099511627776), (-1099511627777), 1] : List Int)) (inner := [.int .i64 1099511627776, .int .i64 1099511627777, .int .i64 (-1099511627776), .int .i64 (-1099511627777), .int .i64 1]) (ok := fun _ => True) (okp := fun _ => True) ?hr ?hp (fun _ hk => hk) trivial (Below.refl _ _) (Nat.le_refl _) (by simp) ?_; (case hd => rfl); (case hg => rfl); (case hr => first | (go_simp; done) | (go_simp; rfl)); (case hp => exact (Reps.one (show Kd.M (Kd.int .i64) _ _ _ 1099511627776 [.int .i64 1099511627776] from rfl) (Reps.one (show Kd.M (Kd.int .i64) _ _ _ 1099511627777 [.int .i64 1099511627777] from rfl) (Reps.one (show Kd.M (Kd.int .i64) _ _ _ (-1099511627776) [.int .i64 (-1099511627776)] from rfl) (Reps.one (show Kd.M (Kd.int .i64) _ _ _ (-1099511627777) [.int .i64 (-1099511627777)] from rfl) (Reps.one (show Kd.M (Kd.int .i64) _ _ _ 1 [.int .i64 1] from rfl) (Reps.none _ _)))))))
          intro v190 w40 ho41 hb hg_ hnew_
          clear hg_ hnew_
          (first | rw [← Ny189.out] at ho41 | (simp only [Int.reduceToNat] at ho41; rw [← Ny189.out] at ho41))
          have n0_ := Aside0.mk (Kd.R_elder' (sqy HO_181001.out) (Kd.R_base ho41) hb)
          have n1_ := Aside0.mk (Kd.R_lower (Kd.R_new' (Kd.R_newM (M := fun k_ => (P1_1_ k_ ∨ w.heap.size ≤ k_)) ho41 (by first | exact HK.out.1 | exact (show Kept w _ (fun k_ => (P1_1_ k_) ∨ k_ = g) from by repeat (first | (with_reducible first | exact HK.out | apply Kept.alloc | apply Kept.drewN | apply Kept.drew | refine Kept.setCell ?_ (.inl (.inr rfl)) _ | refine Kept.setCell ?_ (.inr GW180.out) _ | refine Kept.setCell ?_ (.inr GW181.out) _) | exact HK.out)).1) (fun k_ h_ => .inr h_)) (Kd.R_lt (sqy HO_181001.out))) (below_size (by repeat (first | (with_reducible first | exact HB.out | apply below_alloc | apply pw_below_drewN | apply below_drew1 | refine below_set ?_ (IsS161.ge HI0.out) | refine below_set ?_ GE180.out | refine below_set ?_ GE181.out) | exact HB.out))))
          have n2_ := sqb BK180 hb
          have n3_ := sqb BK181 hb
          have n4_ := Aside0.mk (IsS161.below (by repeat (first | (with_reducible first | exact HI0.out | apply IsS161.alloc | apply IsS161.drewN | apply IsS161.drew | apply IsS161.set_1 | refine IsS161.far ?_ NB0_180.out _ | refine IsS161.far ?_ NB0_181.out _) | exact HI0.out)) hb)
          have n5_ := Aside0.mk (Kept.below (S := (fun k_ => (P1_1_ k_) ∨ k_ = g)) (by repeat (first | (with_reducible first | exact HK.out | apply Kept.alloc | apply Kept.drewN | apply Kept.drew | refine Kept.setCell ?_ (.inl (.inr rfl)) _ | refine Kept.setCell ?_ (.inr GW180.out) _ | refine Kept.setCell ?_ (.inr GW181.out) _) | exact HK.out)) hb)
          have n6_ := Aside0.mk (below_step (by repeat (first | (with_reducible first | exact HB.out | apply below_alloc | apply pw_below_drewN | apply below_drew1 | refine below_set ?_ (IsS161.ge HI0.out) | refine below_set ?_ GE180.out | refine below_set ?_ GE181.out) | exact HB.out)) hb)
          clear HO_181001
          clear BK180
          clear BK181
          clear HI0
          clear HK
          clear HB
          have HO_181001 := n0_
          have HO191 := n1_
          have BK180 := n2_
          have BK181 := n3_
          have HI0 := n4_
          have HK := n5_
          have HB := n6_
          clear n0_ n1_ n2_ n3_ n4_ n5_ n6_
          clear hb ho41
          obtain ⟨Ao42, co42, eo42⟩ := Kd.R_slice HO191.out
          subst eo42
          obtain ⟨ado42, fo42, _⟩ := Kd.at_int (Kd.R_reads' HO191.out).2.2 0 (by decide) (by rw [Ny189.out]; simp)
          cases fo42
          refine hK.out _ _ sqz (fun hHeld => ?_)
          clear hK K
          refine sqnm ?_
          exact norm_ sqnn (hCont (.slice (some ado42) y189.length co42, ado42) _ ⟨hHeld, (by (with_reducible repeat (first | apply Kd.R_alloc | apply Kd.R_drewN | apply Kd.R_drew)); exact Kd.R_mono HO191.out (fun _ hk => ⟨hk.1.1, hk.2⟩)), (sqy HO_181001.out), ⟨_, rfl⟩, (sqt BK180.out), (sqt BK181.out), (by repeat (first | (with_reducible first | exact HI0.out | apply IsS161.alloc | apply IsS161.drewN | apply IsS161.drew | apply IsS161.set_1 | refine IsS161.far ?_ NB0_180.out _ | refine IsS161.far ?_ NB0_181.out _) | exact HI0.out)), (by repeat (first | (with_reducible first | exact HK.out | apply Kept.alloc | apply Kept.drewN | apply Kept.drew | refine Kept.setCell ?_ (.inl (.inr rfl)) _ | refine Kept.setCell ?_ (.inr GW180.out) _ | refine Kept.setCell ?_ (.inr GW181.out) _) | exact HK.out)), (by repeat (first | (with_reducible first | exact HB.out | apply below_alloc | apply pw_below_drewN | apply below_drew1 | refine below_set ?_ (IsS161.ge HI0.out) | refine below_set ?_ GE180.out | refine below_set ?_ GE181.out) | exact HB.out))⟩)
        ·skip
         refine Kd.R_lit_step (Kd.int .i64) _ 3 ?hg (N := 36) ?hd (xs := ([1099511627776, 1099511627777, (-1099511627776), (-1099511627777), 1] : List Int)) (inner := [.int .i64 1099511627776, .int .i64 1099511627777, .int .i64 (-1099511627776), .int .i64 (-1099511627777), .int .i64 1]) (ok := fun _ => True) (okp := fun _ => True) ?hr ?hp (fun _ hk => hk) trivial (Below.refl _ _) (Nat.le_refl _) (by simp) ?_; (case hd => rfl); (case hg => rfl); (case hr => first | (go_simp; done) | (go_simp; rfl)); (case hp => exact (Reps.one (show Kd.M (Kd.int .i64) _ _ _ 1099511627776 [.int .i64 1099511627776] from rfl) (Reps.one (show Kd.M (Kd.int .i64) _ _ _ 1099511627777 [.int .i64 1099511627777] from rfl) (Reps.one (show Kd.M (Kd.int .i64) _ _ _ (-1099511627776) [.int .i64 (-1099511627776)] from rfl) (Reps.one (show Kd.M (Kd.int .i64) _ _ _ (-1099511627777) [.int .i64 (-1099511627777)] from rfl) (Reps.one (show Kd.M (Kd.int .i64) _ _ _ 1 [.int .i64 1] from rfl) (Reps.none _ _)))))))
         intro v190 w38 ho39 hb hg_ hnew_
         clear hg_ hnew_
         (first | rw [← Ny189.out] at ho39 | (simp only [Int.reduceToNat] at ho39; rw [← Ny189.out] at ho39))
         have n0_ := Aside0.mk (Kd.R_elder' (sqy HO_181001.out) (Kd.R_base ho39) hb)
         have n1_ := Aside0.mk (Kd.R_lower (Kd.R_new' (Kd.R_newM (M := fun k_ => (P1_1_ k_ ∨ w.heap.size ≤ k_)) ho39 (by first | exact HK.out.1 | exact (show Kept w _ (fun k_ => (P1_1_ k_) ∨ k_ = g) from by repeat (first | (with_reducible first | exact HK.out | apply Kept.alloc | apply Kept.drewN | apply Kept.drew | refine Kept.setCell ?_ (.inl (.inr rfl)) _ | refine Kept.setCell ?_ (.inr GW180.out) _ | refine Kept.setCell ?_ (.inr GW181.out) _) | exact HK.out)).1) (fun k_ h_ => .inr h_)) (Kd.R_lt (sqy HO_181001.out))) (below_size (by repeat (first | (with_reducible first | exact HB.out | apply below_alloc | apply pw_below_drewN | apply below_drew1 | refine below_set ?_ (IsS161.ge HI0.out) | refine below_set ?_ GE180.out | refine below_set ?_ GE181.out) | exact HB.out))))
         have n2_ := sqb BK180 hb
         have n3_ := sqb BK181 hb
         have n4_ := Aside0.mk (IsS161.below (by repeat (first | (with_reducible first | exact HI0.out | apply IsS161.alloc | apply IsS161.drewN | apply IsS161.drew | apply IsS161.set_1 | refine IsS161.far ?_ NB0_180.out _ | refine IsS161.far ?_ NB0_181.out _) | exact HI0.out)) hb)
         have n5_ := Aside0.mk (Kept.below (S := (fun k_ => (P1_1_ k_) ∨ k_ = g)) (by repeat (first | (with_reducible first | exact HK.out | apply Kept.alloc | apply Kept.drewN | apply Kept.drew | refine Kept.setCell ?_ (.inl (.inr rfl)) _ | refine Kept.setCell ?_ (.inr GW180.out) _ | refine Kept.setCell ?_ (.inr GW181.out) _) | exact HK.out)) hb)
         have n6_ := Aside0.mk (below_step (by repeat (first | (with_reducible first | exact HB.out | apply below_alloc | apply pw_below_drewN | apply below_drew1 | refine below_set ?_ (IsS161.ge HI0.out) | refine below_set ?_ GE180.out | refine below_set ?_ GE181.out) | exact HB.out)) hb)
         clear HO_181001
         clear BK180
         clear BK181
         clear HI0
         clear HK
         clear HB
         have HO_181001 := n0_
         have HO191 := n1_
         have BK180 := n2_
         have BK181 := n3_
         have HI0 := n4_
         have HK := n5_
         have HB := n6_
         clear n0_ n1_ n2_ n3_ n4_ n5_ n6_
         clear hb ho39
         obtain ⟨Ao40, co40, eo40⟩ := Kd.R_slice HO191.out
         subst eo40
         obtain ⟨ado40, fo40, _⟩ := Kd.at_int (Kd.R_reads' HO191.out).2.2 0 (by decide) (by rw [Ny189.out]; simp)
         cases fo40
         refine hK.out _ _ sqz (fun hHeld => ?_)
         clear hK K
         refine sqnm ?_
         refine sqo HT_ 6 35 (fun K hK => ?_)
         refine sqG Try.func109 #[.pointer (some ⟨g, 0, none⟩), .int .i64 (x181001_12.length : Int)] ?_
         with_reducible refine (spec_l1Rd_pick.calls kj21 g s0_0 t183 (x181001_12.length : Int) t187 t188 w0 _ ?side1 ?side2 A29.out).mono ?_
         (case side1 => repeat (first | (with_reducible first | exact HI0.out | apply IsS161.alloc | apply IsS161.drewN | apply IsS161.drew | apply IsS161.set_1 | refine IsS161.far ?_ NB0_180.out _ | refine IsS161.far ?_ NB0_181.out _) | exact HI0.out))
         (case side2 => repeat (first | (with_reducible first | exact HB.out | apply below_alloc | apply pw_below_drewN | apply below_drew1 | refine below_set ?_ (IsS161.ge HI0.out) | refine below_set ?_ GE180.out | refine below_set ?_ GE181.out) | exact HB.out))
         rintro e w41 ⟨rfl, hi, hb, hk⟩
         refine ⟨_, rfl, ?_⟩
         have n0_ := Aside0.mk (Kd.R_mono (Kd.R_keep (IsS161.apart (show IsS161 w0 _ g s0_0 t183 from by repeat (first | (with_reducible first | exact HI0.out | apply IsS161.alloc | apply IsS161.drewN | apply IsS161.drew | apply IsS161.set_1 | refine IsS161.far ?_ NB0_180.out _ | refine IsS161.far ?_ NB0_181.out _) | exact HI0.out)) (sqy HO_181001.out) (by decide)) hk (fun _ h => h.2)) (fun _ h => h.1))
         have n1_ := Aside0.mk (KeepBut.blk hk (g' := gb180) (o := .cells #[.int .i64 x181000_3, .slice Ao37 x181001_12.length co37] 41 (0, 0)) (sqt BK180.out) NB180_0.out (by simp))
         have n2_ := Aside0.mk (KeepBut.blk hk (g' := gb181) (o := .cells #[.int .i64 0, .slice none 0 0] 41 (0, 0)) (sqt BK181.out) NB181_0.out (by simp))
         have n3_ := Aside0.mk (Kd.R_mono (Kd.R_keep (IsS161.apart (show IsS161 w0 _ g s0_0 t183 from by repeat (first | (with_reducible first | exact HI0.out | apply IsS161.alloc | apply IsS161.drewN | apply IsS161.drew | apply IsS161.set_1 | refine IsS161.far ?_ NB0_180.out _ | refine IsS161.far ?_ NB0_181.out _) | exact HI0.out)) (sqy HO191.out) (by decide)) hk (fun _ h => h.2)) (fun _ h => h.1))
         have n4_ := Aside0.mk (Kept.of_keep (S := (fun k_ => (P1_1_ k_) ∨ k_ = g)) (by repeat (first | (with_reducible first | exact HK.out | apply Kept.alloc | apply Kept.drewN | apply Kept.drew | refine Kept.setCell ?_ (.inl (.inr rfl)) _ | refine Kept.setCell ?_ (.inr GW180.out) _ | refine Kept.setCell ?_ (.inr GW181.out) _) | exact HK.out)) hk (.inl (.inr rfl)))
         have n5_ := Aside0.mk (hb)
         have n6_ := Aside0.mk (hi)
         clear HO_181001
         clear BK180
         clear BK181
         clear HO191
         clear HK
         clear HB
         clear HI0
         have HO_181001 := n0_
         have BK180 := n1_
         have BK181 := n2_
         have HO191 := n3_
         have HK := n4_
         have HB := n5_
         have HI0 := n6_
         clear n0_ n1_ n2_ n3_ n4_ n5_ n6_
         (try clear hb)
         (try clear hb2)
         (try clear hk)
         (try clear hi)
         refine hK.out _ _ sqz (fun hHeld => ?_)
         clear hK K
         refine sqnm ?_
         refine sqo HT_ 9 38 (fun K hK => ?_)
         refine sqG Try.func109 #[.pointer (some ⟨g, 0, none⟩), .int .i64 5] ?_
         with_reducible refine (spec_l1Rd_pick.calls kj21 g s0_0 t188 5 t192 t193 w0 _ ?side1 ?side2 A30.out).mono ?_
         (case side1 => repeat (first | (with_reducible first | exact HI0.out | apply IsS161.alloc | apply IsS161.drewN | apply IsS161.drew | apply IsS161.set_1 | refine IsS161.far ?_ NB0_180.out _ | refine IsS161.far ?_ NB0_181.out _) | exact HI0.out))
         (case side2 => repeat (first | (with_reducible first | exact HB.out | apply below_alloc | apply pw_below_drewN | apply below_drew1 | refine below_set ?_ (IsS161.ge HI0.out) | refine below_set ?_ GE180.out | refine below_set ?_ GE181.out) | exact HB.out))
         rintro e w42 ⟨rfl, hi, hb, hk⟩
         refine ⟨_, rfl, ?_⟩
         have n0_ := Aside0.mk (Kd.R_mono (Kd.R_keep (IsS161.apart (show IsS161 w0 _ g s0_0 t188 from by repeat (first | (with_reducible first | exact HI0.out | apply IsS161.alloc | apply IsS161.drewN | apply IsS161.drew | apply IsS161.set_1 | refine IsS161.far ?_ NB0_180.out _ | refine IsS161.far ?_ NB0_181.out _) | exact HI0.out)) (sqy HO_181001.out) (by decide)) hk (fun _ h => h.2)) (fun _ h => h.1))
         have n1_ := Aside0.mk (KeepBut.blk hk (g' := gb180) (o := .cells #[.int .i64 x181000_3, .slice Ao37 x181001_12.length co37] 41 (0, 0)) (sqt BK180.out) NB180_0.out (by simp))
         have n2_ := Aside0.mk (KeepBut.blk hk (g' := gb181) (o := .cells #[.int .i64 0, .slice none 0 0] 41 (0, 0)) (sqt BK181.out) NB181_0.out (by simp))
         have n3_ := Aside0.mk (Kd.R_mono (Kd.R_keep (IsS161.apart (show IsS161 w0 _ g s0_0 t188 from by repeat (first | (with_reducible first | exact HI0.out | apply IsS161.alloc | apply IsS161.drewN | apply IsS161.drew | apply IsS161.set_1 | refine IsS161.far ?_ NB0_180.out _ | refine IsS161.far ?_ NB0_181.out _) | exact HI0.out)) (sqy HO191.out) (by decide)) hk (fun _ h => h.2)) (fun _ h => h.1))
         have n4_ := Aside0.mk (Kept.of_keep (S := (fun k_ => (P1_1_ k_) ∨ k_ = g)) (by repeat (first | (with_reducible first | exact HK.out | apply Kept.alloc | apply Kept.drewN | apply Kept.drew | refine Kept.setCell ?_ (.inl (.inr rfl)) _ | refine Kept.setCell ?_ (.inr GW180.out) _ | refine Kept.setCell ?_ (.inr GW181.out) _) | exact HK.out)) hk (.inl (.inr rfl)))
         have n5_ := Aside0.mk (hb)
         have n6_ := Aside0.mk (hi)
         clear HO_181001
         clear BK180
         clear BK181
         clear HO191
         clear HK
         clear HB
         clear HI0
         have HO_181001 := n0_
         have BK180 := n1_
         have BK181 := n2_
         have HO191 := n3_
         have HK := n4_
         have HB := n5_
         have HI0 := n6_
         clear n0_ n1_ n2_ n3_ n4_ n5_ n6_
         (try clear hb)
         (try clear hb2)
         (try clear hk)
         (try clear hi)
         refine hK.out _ _ sqz (fun hHeld => ?_)
         clear hK K
         refine sqnm ?_
         exact norm_ sqnn (hCont (.slice (some ado40) y189.length co40, ado40) _ ⟨hHeld, (by (with_reducible repeat (first | apply Kd.R_alloc | apply Kd.R_drewN | apply Kd.R_drew)); exact Kd.R_mono HO191.out (fun _ hk => ⟨hk.1.1, hk.2⟩)), (sqy HO_181001.out), ⟨_, rfl⟩, (sqt BK180.out), (sqt BK181.out), (by repeat (first | (with_reducible first | exact HI0.out | apply IsS161.alloc | apply IsS161.drewN | apply IsS161.drew | apply IsS161.set_1 | refine IsS161.far ?_ NB0_180.out _ | refine IsS161.far ?_ NB0_181.out _) | exact HI0.out)), (by repeat (first | (with_reducible first | exact HK.out | apply Kept.alloc | apply Kept.drewN | apply Kept.drew | refine Kept.setCell ?_ (.inl (.inr rfl)) _ | refine Kept.setCell ?_ (.inr GW180.out) _ | refine Kept.setCell ?_ (.inr GW181.out) _) | exact HK.out)), (by repeat (first | (with_reducible first | exact HB.out | apply below_alloc | apply pw_below_drewN | apply below_drew1 | refine below_set ?_ (IsS161.ge HI0.out) | refine below_set ?_ GE180.out | refine below_set ?_ GE181.out) | exact HB.out))⟩)
       rintro ⟨v190, adz_v190⟩ w43 ⟨hS_, h0_, h1_, h2_, h3_, h4_, h5_, h6_, h7_⟩
       have HO191 : Aside0 (Kd.R (Kd.int .i64) 3 w43 w0.heap.size (fun k_ => (P1_1_ k_ ∨ w.heap.size ≤ k_) ∧ some k_ ≠ (.slice Ao37 x181001_12.length co37 : Value).ownBlock) v190 y189) := ⟨h0_⟩; replace HO_181001 : Aside0 (Kd.R (Kd.int .i64) 3 w43 w0.heap.size (fun k_ => (P1_1_ k_ ∨ w.heap.size ≤ k_) ∧ some k_ ≠ (v190 : Value).ownBlock) (.slice Ao37 x181001_12.length co37) x181001_12) := ⟨h1_⟩; have HA_HO191 : Aside0 (∃ c_, (v190 : Value) = .slice (some adz_v190) y189.length c_) := ⟨h2_⟩; replace BK180 : Aside0 (w43.heap[gb180]? = some (.cells #[.int .i64 x181000_3, .slice Ao37 x181001_12.length co37] 41 (0, 0))) := ⟨h3_⟩; replace BK181 : Aside0 (w43.heap[gb181]? = some (.cells #[.int .i64 0, .slice none 0 0] 41 (0, 0))) := ⟨h4_⟩; replace HI0 : Aside0 (IsS161 w0 w43 g s0_0 t193) := ⟨h5_⟩; replace HK : Aside0 (Kept w w43 (fun k_ => (P1_1_ k_) ∨ k_ = g)) := ⟨h6_⟩; replace HB : Aside0 (Below w0.heap.size w0 w43) := ⟨h7_⟩; clear h0_ h1_ h2_ h3_ h4_ h5_ h6_ h7_
       have hHeld : w43.cell? ⟨gb180, 0, none⟩ = some (.int .i64 x181000_3) ∧ w43.cell? ⟨gb180, 1, none⟩ = some (.slice Ao37 x181001_12.length co37) := hS_
       obtain ⟨co44, eo44⟩ := HA_HO191.out
       clear HA_HO191
       subst eo44
       have p35 : 0 ≤ (t187 : Int) := sqd
       have q35 : (t187 : Int) < ((x181001_12.length : Int) : Int) := sqd
       obtain ⟨go35, co35, eo35, gb35, gl35, cl35, HG35⟩ := Kd.R_form HO_181001.out (by omega)
       (first | cases eo35 | (injection eo35 with ea_ en_ ec_; (first | subst ea_ | (injection ea_ with ea_; subst ea_)); subst ec_; clear en_))
       have GB35 := Aside0.mk gb35
       have GG35 := Aside0.mk HG35
       clear gb35 gl35 HG35
       have HMgo35 := Aside0.mk (show (P1_1_ go35 ∨ w.heap.size ≤ go35) from (HO_181001.out.1 _ rfl).1)
       obtain ⟨hx35_0, hf35_0⟩ := Kd.R_celln 0 HO_181001.out (t187 : Int) p35 q35
       replace p35 := eq_true p35
       replace q35 := eq_true q35
       have HN0_go35 := Aside0.mk (show g ≠ go35 from by have h_ := IsS161.own_ne HI0.out HO_181001.out (by decide); intro e_; exact h_ (by rw [e_]; rfl))
       have HP45 := Kd.R_putn HO_181001.out (t187 : Int) (rd y189 t192)
       rw [← Ny195.out] at HP45
       have HQ45 := Aside0.mk HP45
       clear HP45
       refine norm_ (a' := ?_) ?_ ?_
       rotate_left
       ·simp only [putAll, Act.put, List.setIfInBounds_toArray, List.set_cons_zero, List.set_cons_succ]
        rfl
       refine sqp HT_ 10 39 ?_
       refine sqo HT_ 11 40 (fun K hK => ?_)
       (have p194 : 0 ≤ (t192 : Int) := sqd; have q194 : t192 < (y189.length : Int) := sqd; obtain ⟨ad194, e194, hx194_0⟩ := Kd.at_int (Kd.R_reads' HO191.out).2.2 t192 p194 q194; obtain rfl : adz_v190 = ad194 := (by injection e194))
       refine value_ (w1 := ?_) (v := ?_) (by rfl) rfl ?_ ?_
       rotate_left 2
       ·go_simp
        constructor
        ·rfl
        ·rfl
       clear hx194_0
       refine hK.out _ _ sqz (fun hHeld => ?_)
       clear hK K
       refine sqnm ?_
       refine sqp HT_ 12 41 ?_
       refine last_ (i := 13) (N := none) #[true, true, true, true, true, true, true, true, true, true, true, true, true, true] rfl rfl (one_of HT_.out (by kernel_rfl)) (by decide) (fun K hK => ?_)
       refine skip_ (w1 := ?_) (by rfl) rfl ?_ ?_
       rotate_left
       ·go_simp
        rfl
       refine hK.out _ _ ?_
       clear hK K
       refine done_ (done_of HT_.out (by kernel_rfl)) ?_
       have n0_ : Aside0 (Kd.R (Kd.int .i64) 3 (w43.setCell ⟨go35, (t187 : Int).toNat, none⟩ (.int .i64 (rd y189 t192))) w0.heap.size (fun k_ => (P1_1_ k_ ∨ w.heap.size ≤ k_) ∧ some k_ ≠ (.slice (some adz_v190) y189.length co44 : Value).ownBlock) (.slice (some ⟨go35, 0, none⟩) x181001_12.length co37) y195) := ⟨sqy HQ45.out⟩
       have n1_ : Aside0 (Kd.R (Kd.int .i64) 3 (w43.setCell ⟨go35, (t187 : Int).toNat, none⟩ (.int .i64 (rd y189 t192))) w0.heap.size (fun k_ => (P1_1_ k_ ∨ w.heap.size ≤ k_) ∧ some k_ ≠ (.slice (some ⟨go35, 0, none⟩) x181001_12.length co37 : Value).ownBlock) (.slice (some adz_v190) y189.length co44) y189) := ⟨by (with_reducible repeat (first | apply Kd.R_alloc | apply Kd.R_drewN | apply Kd.R_drew)); exact Kd.R_mono (Kd.R_far (p := ⟨go35, (t187 : Int).toNat, none⟩) (Kd.R_mono HO191.out (fun k_ hk => (⟨hk, fun e_ => hk.2 (by rw [e_]; rfl)⟩ : _ ∧ k_ ≠ go35))) (fun _ hk => hk.2) (.int .i64 (rd y189 t192))) (fun _ hk => ⟨hk.1.1, hk.1.2⟩)⟩
       have n2_ : Aside0 ((w43.setCell ⟨go35, (t187 : Int).toNat, none⟩ (.int .i64 (rd y189 t192))).heap[gb180]? = some (.cells #[.int .i64 x181000_3, .slice (some ⟨go35, 0, none⟩) x181001_12.length co37] 41 (0, 0))) := ⟨by refine sqt ?_; refine blk_far ?_ (by have h_ := Kd.R_ne HO_181001.out BK180.out (by decide); intro e_; exact h_ (by rw [e_]; rfl)) _; refine sqt ?_; exact BK180.out⟩
       have n3_ : Aside0 ((w43.setCell ⟨go35, (t187 : Int).toNat, none⟩ (.int .i64 (rd y189 t192))).heap[gb181]? = some (.cells #[.int .i64 0, .slice none 0 0] 41 (0, 0))) := ⟨by refine sqt ?_; refine blk_far ?_ (by have h_ := Kd.R_ne HO_181001.out BK181.out (by decide); intro e_; exact h_ (by rw [e_]; rfl)) _; refine sqt ?_; exact BK181.out⟩
       have n4_ : Aside0 (IsS161 w0 (w43.setCell ⟨go35, (t187 : Int).toNat, none⟩ (.int .i64 (rd y189 t192))) g s0_0 t193) := ⟨by repeat (first | (with_reducible first | exact HI0.out | apply IsS161.alloc | apply IsS161.drewN | apply IsS161.drew | apply IsS161.set_1 | refine IsS161.far ?_ HN0_go35.out _ | refine IsS161.far ?_ NB0_180.out _ | refine IsS161.far ?_ NB0_181.out _) | exact HI0.out)⟩
       have n5_ : Aside0 (Kept w (w43.setCell ⟨go35, (t187 : Int).toNat, none⟩ (.int .i64 (rd y189 t192))) (fun k_ => (P1_1_ k_) ∨ k_ = g)) := ⟨by repeat (first | (with_reducible first | exact HK.out | apply Kept.alloc | apply Kept.drewN | apply Kept.drew | refine Kept.setCell ?_ (Or.imp_left Or.inl HMgo35.out) _ | refine Kept.setCell ?_ (.inl (.inr rfl)) _ | refine Kept.setCell ?_ (.inr GW180.out) _ | refine Kept.setCell ?_ (.inr GW181.out) _) | exact HK.out)⟩
       have n6_ : Aside0 (Below w0.heap.size w0 (w43.setCell ⟨go35, (t187 : Int).toNat, none⟩ (.int .i64 (rd y189 t192)))) := ⟨by repeat (first | (with_reducible first | exact HB.out | apply below_alloc | apply pw_below_drewN | apply below_drew1 | refine below_set ?_ GB35.out | refine below_set ?_ (IsS161.ge HI0.out) | refine below_set ?_ GE180.out | refine below_set ?_ GE181.out) | exact HB.out)⟩
       (try clear HO_181001)
       (try clear HO191)
       (try clear BK180)
       (try clear BK181)
       (try clear HI0)
       (try clear HK)
       (try clear HB)
       generalize (w43.setCell ⟨go35, (t187 : Int).toNat, none⟩ (.int .i64 (rd y189 t192))) = w46 at n0_ n1_ n2_ n3_ n4_ n5_ n6_ ⊢
       have HO_181001 := n0_
       have HO191 := n1_
       have BK180 := n2_
       have BK181 := n3_
       have HI0 := n4_
       have HK := n5_
       have HB := n6_
       clear n0_ n1_ n2_ n3_ n4_ n5_ n6_
       have hnb47 := NB180_181.out
       have hnc47 := NB181_180.out
       have hnb48 := NB180_0.out
       have hnc48 := NB0_180.out
       obtain ⟨hcz49_0, hcz49_1, hfz49_0, hfz49_1⟩ := sqc2 BK180
       have hnb50 := NB181_0.out
       have hnc50 := NB0_181.out
       obtain ⟨hcz51_0, hcz51_1, hfz51_0, hfz51_1⟩ := sqc2 BK181
       try go_wp2
       refine bodyPost_ret (results_cell_row rfl _ _ gb181 41 #[.int .i64 x181000_3, .slice (some ⟨go35, 0, none⟩) x181001_12.length co37] (0, 0) _ rfl (by refine sqt ?_; refine blk_put (cs := #[.int .i64 x181000_3, .slice none 0 0]) ?_ 1 _ rfl; refine sqt ?_; refine blk_put (cs := #[.int .i64 0, .slice none 0 0]) ?_ 0 _ rfl; refine sqt ?_; exact BK181.out) Try.underlying41 rfl (by kernel_rfl)) rfl ?_
       exact ⟨_, by first | rfl | (simp [errW_none, errW_some] <;> rfl) | (simp [*, errW_none, errW_some] <;> rfl), by (with_reducible repeat (first | apply Kd.R_alloc | apply Kd.R_drewN | apply Kd.R_drew)); exact Kd.R_mono (Kd.R_far (p := ⟨gb181, 1, none⟩) (Kd.R_far (p := ⟨gb181, 0, none⟩) (Kd.R_types HO_181001.out BK181.out (by decide)) (fun _ hk => hk.2) (.int .i64 x181000_3)) (fun _ hk => hk.2) (.slice (some ⟨go35, 0, none⟩) x181001_12.length co37)) (fun _ hk => hk.1.1), by repeat (first | (with_reducible first | exact HI0.out | apply IsS161.alloc | apply IsS161.drewN | apply IsS161.drew | apply IsS161.set_1 | refine IsS161.far ?_ NB0_180.out _ | refine IsS161.far ?_ NB0_181.out _) | exact HI0.out), by repeat (first | (with_reducible first | exact HB.out | apply below_alloc | apply pw_below_drewN | apply below_drew1 | refine below_set ?_ (IsS161.ge HI0.out) | refine below_set ?_ GE180.out | refine below_set ?_ GE181.out) | exact HB.out), by repeat (first | (with_reducible first | exact HK.out | apply Kept.alloc | apply Kept.drewN | apply Kept.drew | refine Kept.setCell ?_ (.inl (.inr rfl)) _ | refine Kept.setCell ?_ (.inr GW180.out) _ | refine Kept.setCell ?_ (.inr GW181.out) _) | exact HK.out)⟩

end Go.Proofs.Ytkekcenlleebeaa.PFnGapsClose
