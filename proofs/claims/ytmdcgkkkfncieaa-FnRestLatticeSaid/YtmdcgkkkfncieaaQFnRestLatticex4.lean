/- Functions of the program as plain Lean functions, and that calls of them come to what these tell. Conditions: those in each law. -/
import Derived.Test.YtmdcgkkkfncieaaSq
import Derived.Test.YtmdcgkkkfncieaaDFnRestLattice
import Derived.Test.YtmdcgkkkfncieaaQFnRestLatticex0
import Derived.Test.YtmdcgkkkfncieaaQFnRestLatticex2
import Derived.Test.YtmdcgkkkfncieaaQFnRestLatticex3
namespace Go.Proofs.Ytmdcgkkkfncieaa.PFnRestLattice
open Go.RowKit Go.Proofs.Ytmdcgkkkfncieaa.Sq Go.Proofs.YtmdcgkkkfncieaaW.PrintWords Go.Proofs.YtmdcgkkkfncieaaW.PrintLast Go.Proofs.YtmdcgkkkfncieaaW.PrintMore
attribute [local go_sem] max2_int min2_int max_two min_two max_three min_three max_four min_four   -- for this text's walks alone
set_option linter.unusedVariables false
set_option linter.unusedSimpArgs false

/-! ### spec_l9Two: function 104 -/
theorem spec_l9Two.mono_l : ∀ k, (∀ y0 y1 y2 y3 y4 y5 y6, LeO (spec_l9Two.j0 k y0 y1 y2 y3 y4 y5 y6) (spec_l9Two.j0 (k + 1) y0 y1 y2 y3 y4 y5 y6))
  | 0 => fun _ _ _ _ _ _ _ r h => by simp [spec_l9Two.j0] at h
  | k + 1 => by
    have ih0 := spec_l9Two.mono_l k
    · intro y0 y1 y2 y3 y4 y5 y6
      unfold spec_l9Two.j0
      repeat' first
      | (with_reducible exact ih0 _ _ _ _ _ _ _)
      | (with_reducible exact spec_l1Rd_pick.mono _ _ _ _)
      | (with_reducible exact spec_l9Gcd.mono _ _ _)
      | (with_reducible exact spec_l9Wild.mono _ _ _)
      | (with_reducible exact LeO.refl _)
      | (with_reducible exact LeO.none _)
      | (with_reducible refine LeO.ite ?_ ?_)
      | (with_reducible refine LeO.bind ?_ (fun _ => ?_))
      | exact ih0 _ _ _ _ _ _ _
      | exact spec_l1Rd_pick.mono _ _ _ _
      | exact spec_l9Gcd.mono _ _ _
      | exact spec_l9Wild.mono _ _ _
      | exact LeO.none _
      | refine LeO.ite ?_ ?_
      | refine LeO.bind ?_ (fun _ => ?_)
theorem spec_l9Two.mono : ∀ a0 a1 k, LeO (spec_l9Two.f k a0 a1) (spec_l9Two.f (k + 1) a0 a1) := by
  intro a0 a1 k
  have ih0 := spec_l9Two.mono_l k
  unfold spec_l9Two.f
  repeat' first
      | (with_reducible exact ih0 _ _ _ _ _ _ _)
      | (with_reducible exact spec_l1Rd_pick.mono _ _ _ _)
      | (with_reducible exact spec_l9Gcd.mono _ _ _)
      | (with_reducible exact spec_l9Wild.mono _ _ _)
      | (with_reducible exact LeO.refl _)
      | (with_reducible exact LeO.none _)
      | (with_reducible refine LeO.ite ?_ ?_)
      | (with_reducible refine LeO.bind ?_ (fun _ => ?_))
      | exact ih0 _ _ _ _ _ _ _
      | exact spec_l1Rd_pick.mono _ _ _ _
      | exact spec_l9Gcd.mono _ _ _
      | exact spec_l9Wild.mono _ _ _
      | exact LeO.none _
      | refine LeO.ite ?_ ?_
      | refine LeO.bind ?_ (fun _ => ?_)
def spec_l9Two.T5 : Bool × List (List Nat × List Nat) := (true, [([], []), ([], []), ([1], [1]), ([], []), ([3], [3]), ([2, 4], [2, 4]), ([], []), ([5, 6, 4], [5, 6]), ([0, 7], [0, 7]), ([8, 7, 0, 1, 2, 3, 4, 5, 6, 7, 8], [8])])
def spec_l9Two.B5 : List Nat := [0, 0, 2, 0, 8, 30, 0, 126, 255, 511]
theorem spec_l9Two.tab5 : rtab .any (opsOf Try.f104 5) = spec_l9Two.T5 := by kernel_rfl
theorem spec_l9Two.bits5 : waitsOk spec_l9Two.T5.2 spec_l9Two.B5 = true := by kernel_rfl
set_option maxHeartbeats 8000000 in
set_option maxRecDepth 100000 in
theorem spec_l9Two.calls (k : Nat) (g : Nat) (s0_0 : List Int) (s0_1 : Int) (r1 : Int) (r2 : Int) (r3 : Int) (r4 : Int) (r5 : Int) (w0 w : World) (hI : IsS98 w0 w g s0_0 s0_1) (hB : Below w0.heap.size w0 w) (h : spec_l9Two.f k s0_0 s0_1 = some (r1, r2, r3, r4, r5)) :
    Calls Try.prog 104 #[.pointer (some ⟨g, 0, none⟩)] w fun e w' => e = .returned (.tuple #[.agg #[.int .i64 r1, .int .i64 r2], .agg #[.int .i64 r3, .int .i64 r4]]) ∧ IsS98 w0 w' g s0_0 r5 ∧ Below w0.heap.size w0 w' ∧ KeepBut w w' g none := by
  have hu62 := Try.underlying62
  have HI0 := Aside0.mk hI
  have HK := Aside0.mk (KeepBut.refl w g none)
  have HL := Aside0.mk hB.size
  clear hI
  have HW0 := Aside0.mk hB.size
  have HB := Aside0.mk hB
  clear hB
  have H : ((spec_l9Wild.f k s0_0 s0_1).bind fun bt186 => ((spec_l9Wild.f k s0_0 bt186.2.2).bind fun bt190 => ((spec_l1Rd_pick.f k s0_0 bt190.2.2 3).bind fun bt194 => (if bt194.1 = 0 then ((spec_RestOk.f bt186.1 bt186.2.1).bind fun t196 => (if t196 = true then (spec_l9Two.j0 k (decide (bt186.1 > 0)) s0_0 bt194.2 bt186.1 bt186.2.1 bt190.1 bt190.2.1) else (spec_l9Two.j0 k false s0_0 bt194.2 bt186.1 bt186.2.1 bt190.1 bt190.2.1))) else (spec_l9Two.j0 k false s0_0 bt194.2 bt186.1 bt186.2.1 bt190.1 bt190.2.1))))) = some (r1, r2, r3, r4, r5) := h
  clear h
  replace H := Option.bind_eq_some_iff.mp H
  obtain ⟨⟨t186, t187, t188⟩, A20, H⟩ := H
  replace H : ((spec_l9Wild.f k s0_0 t188).bind fun bt190 => ((spec_l1Rd_pick.f k s0_0 bt190.2.2 3).bind fun bt194 => (if bt194.1 = 0 then ((spec_RestOk.f t186 t187).bind fun t196 => (if t196 = true then (spec_l9Two.j0 k (decide (t186 > 0)) s0_0 bt194.2 t186 t187 bt190.1 bt190.2.1) else (spec_l9Two.j0 k false s0_0 bt194.2 t186 t187 bt190.1 bt190.2.1))) else (spec_l9Two.j0 k false s0_0 bt194.2 t186 t187 bt190.1 bt190.2.1)))) = some (r1, r2, r3, r4, r5) := H
  have A2 := Aside0.mk A20
  clear A20
  replace H := Option.bind_eq_some_iff.mp H
  obtain ⟨⟨t190, t191, t192⟩, A30, H⟩ := H
  replace H : ((spec_l1Rd_pick.f k s0_0 t192 3).bind fun bt194 => (if bt194.1 = 0 then ((spec_RestOk.f t186 t187).bind fun t196 => (if t196 = true then (spec_l9Two.j0 k (decide (t186 > 0)) s0_0 bt194.2 t186 t187 t190 t191) else (spec_l9Two.j0 k false s0_0 bt194.2 t186 t187 t190 t191))) else (spec_l9Two.j0 k false s0_0 bt194.2 t186 t187 t190 t191))) = some (r1, r2, r3, r4, r5) := H
  have A3 := Aside0.mk A30
  clear A30
  have HC4 := Aside0.mk H
  clear H
  go_enter Try.func104, Try.ntmps104
  go_upto_region 3 with (first | ((with_reducible refine gate_dst (N := 2) rfl ?_); refine sqx 2 #[.int .i64 0, .int .i64 0] 62 ?_; intro gb184 hg w5 hbox hb; have n0_ := Aside0.mk (IsS98.below (by repeat (first | (with_reducible first | exact HI0.out | apply IsS98.alloc | apply IsS98.drewN | apply IsS98.drew | apply IsS98.set_1) | exact HI0.out)) hb); have n1_ := Aside0.mk (KeepBut.trans (by repeat (first | (with_reducible first | exact HK.out | apply KeepBut.set_ | apply keep_drewN | apply keep_drew | apply keep_alloc) | exact HK.out)) (KeepBut.of_below hb g none) (.inl rfl)); have n2_ := Aside0.mk (below_step (by repeat (first | (with_reducible first | exact HB.out | apply below_alloc | apply pw_below_drewN | apply below_drew1 | refine below_set ?_ (IsS98.ge HI0.out)) | exact HB.out)) hb); have n3_ := Aside0.mk (hbox); have n4_ := Aside0.mk ((by rw [hg]; exact (keep_size (w := w) (g := g) (row := none) (by repeat (first | (with_reducible first | exact HK.out | apply KeepBut.set_ | apply keep_drewN | apply keep_drew | apply keep_alloc) | exact HK.out))) : w.heap.size ≤ gb184)); have n5_ := Aside0.mk ((Nat.le_trans HW0.out (by rw [hg]; exact (keep_size (w := w) (g := g) (row := none) (by repeat (first | (with_reducible first | exact HK.out | apply KeepBut.set_ | apply keep_drewN | apply keep_drew | apply keep_alloc) | exact HK.out))) : w.heap.size ≤ gb184) : w0.heap.size ≤ gb184)); have n6_ := Aside0.mk ((by rw [hg]; exact Nat.ne_of_lt (IsS98.lt (show IsS98 w0 _ g s0_0 s0_1 from by repeat (first | (with_reducible first | exact HI0.out | apply IsS98.alloc | apply IsS98.drewN | apply IsS98.drew | apply IsS98.set_1) | exact HI0.out))) : g ≠ gb184)); have n7_ := Aside0.mk ((by rw [hg]; exact Nat.ne_of_gt (IsS98.lt (show IsS98 w0 _ g s0_0 s0_1 from by repeat (first | (with_reducible first | exact HI0.out | apply IsS98.alloc | apply IsS98.drewN | apply IsS98.drew | apply IsS98.set_1) | exact HI0.out))) : gb184 ≠ g)); clear HI0; clear HK; clear HB; have HI0 := n0_; have HK := n1_; have HB := n2_; have BK184 := n3_; have GW184 := n4_; have GE184 := n5_; have NB0_184 := n6_; have NB184_0 := n7_; clear n0_ n1_ n2_ n3_ n4_ n5_ n6_ n7_; clear hb hbox hg) | ((with_reducible refine gate_dst (N := 3) rfl ?_); refine sqx 3 #[.int .i64 0, .int .i64 0] 62 ?_; intro gb185 hg w6 hbox hb; have n0_ := Aside0.mk (IsS98.below (by repeat (first | (with_reducible first | exact HI0.out | apply IsS98.alloc | apply IsS98.drewN | apply IsS98.drew | apply IsS98.set_1 | refine IsS98.far ?_ NB0_184.out _) | exact HI0.out)) hb); have n1_ := sqb BK184 hb; have n2_ := Aside0.mk (KeepBut.trans (by repeat (first | (with_reducible first | exact HK.out | apply KeepBut.set_ | apply keep_drewN | apply keep_drew | apply keep_alloc | refine keep_far ?_ GW184.out _) | exact HK.out)) (KeepBut.of_below hb g none) (.inl rfl)); have n3_ := Aside0.mk (below_step (by repeat (first | (with_reducible first | exact HB.out | apply below_alloc | apply pw_below_drewN | apply below_drew1 | refine below_set ?_ (IsS98.ge HI0.out) | refine below_set ?_ GE184.out) | exact HB.out)) hb); have n4_ := Aside0.mk (hbox); have n5_ := Aside0.mk ((by rw [hg]; exact (keep_size (w := w) (g := g) (row := none) (by repeat (first | (with_reducible first | exact HK.out | apply KeepBut.set_ | apply keep_drewN | apply keep_drew | apply keep_alloc | refine keep_far ?_ GW184.out _) | exact HK.out))) : w.heap.size ≤ gb185)); have n6_ := Aside0.mk ((Nat.le_trans HW0.out (by rw [hg]; exact (keep_size (w := w) (g := g) (row := none) (by repeat (first | (with_reducible first | exact HK.out | apply KeepBut.set_ | apply keep_drewN | apply keep_drew | apply keep_alloc | refine keep_far ?_ GW184.out _) | exact HK.out))) : w.heap.size ≤ gb185) : w0.heap.size ≤ gb185)); have n7_ := sqn BK184 hg; have n8_ := sqm BK184 hg; have n9_ := Aside0.mk ((by rw [hg]; exact Nat.ne_of_lt (IsS98.lt (show IsS98 w0 _ g s0_0 s0_1 from by repeat (first | (with_reducible first | exact HI0.out | apply IsS98.alloc | apply IsS98.drewN | apply IsS98.drew | apply IsS98.set_1 | refine IsS98.far ?_ NB0_184.out _) | exact HI0.out))) : g ≠ gb185)); have n10_ := Aside0.mk ((by rw [hg]; exact Nat.ne_of_gt (IsS98.lt (show IsS98 w0 _ g s0_0 s0_1 from by repeat (first | (with_reducible first | exact HI0.out | apply IsS98.alloc | apply IsS98.drewN | apply IsS98.drew | apply IsS98.set_1 | refine IsS98.far ?_ NB0_184.out _) | exact HI0.out))) : gb185 ≠ g)); clear HI0; clear BK184; clear HK; clear HB; have HI0 := n0_; have BK184 := n1_; have HK := n2_; have HB := n3_; have BK185 := n4_; have GW185 := n5_; have GE185 := n6_; have NB184_185 := n7_; have NB185_184 := n8_; have NB0_185 := n9_; have NB185_0 := n10_; clear n0_ n1_ n2_ n3_ n4_ n5_ n6_ n7_ n8_ n9_ n10_; clear hb hbox hg) | ((with_reducible refine gate_callee (f := 116) rfl ?_); refine sqL (some 8) Try.func116 #[.pointer (some ⟨g, 0, none⟩)] ?_; (with_reducible refine (spec_l9Wild.calls k g s0_0 s0_1 t186 t187 t188 w0 _ ?side1 ?side2 A2.out).mono ?_); (case side1 => repeat (first | (with_reducible first | exact HI0.out | apply IsS98.alloc | apply IsS98.drewN | apply IsS98.drew | apply IsS98.set_1 | refine IsS98.far ?_ NB0_184.out _ | refine IsS98.far ?_ NB0_185.out _) | exact HI0.out)); (case side2 => repeat (first | (with_reducible first | exact HB.out | apply below_alloc | apply pw_below_drewN | apply below_drew1 | refine below_set ?_ (IsS98.ge HI0.out) | refine below_set ?_ GE184.out | refine below_set ?_ GE185.out) | exact HB.out)); rintro e w7 ⟨rfl, hi, hb, hk⟩; refine ⟨_, rfl, ?_⟩; have n0_ := Aside0.mk (KeepBut.blk hk (g' := gb184) (o := .cells #[.int .i64 0, .int .i64 0] 62 (0, 0)) (by refine sqt ?_; exact BK184.out) NB184_0.out (by simp)); have n1_ := Aside0.mk (KeepBut.blk hk (g' := gb185) (o := .cells #[.int .i64 0, .int .i64 0] 62 (0, 0)) (by refine sqt ?_; exact BK185.out) NB185_0.out (by simp)); have n2_ := Aside0.mk (KeepBut.trans (by repeat (first | (with_reducible first | exact HK.out | apply KeepBut.set_ | apply keep_drewN | apply keep_drew | apply keep_alloc | refine keep_far ?_ GW184.out _ | refine keep_far ?_ GW185.out _) | exact HK.out)) hk (.inl rfl)); have n3_ := Aside0.mk (hb); have n4_ := Aside0.mk (hi); clear BK184; clear BK185; clear HK; clear HB; clear HI0; have BK184 := n0_; have BK185 := n1_; have HK := n2_; have HB := n3_; have HI0 := n4_; clear n0_ n1_ n2_ n3_ n4_; (try clear hb); (try clear hb2); (try clear hk); (try clear hi)) | ((with_reducible refine gate_dst (N := 4) rfl ?_); refine sqx 4 #[.int .i64 0, .int .i64 0] 62 ?_; intro gb189 hg w8 hbox hb; have n0_ := Aside0.mk (IsS98.below (by repeat (first | (with_reducible first | exact HI0.out | apply IsS98.alloc | apply IsS98.drewN | apply IsS98.drew | apply IsS98.set_1 | refine IsS98.far ?_ NB0_184.out _ | refine IsS98.far ?_ NB0_185.out _) | exact HI0.out)) hb); have n1_ := sqb BK184 hb; have n2_ := sqb BK185 hb; have n3_ := Aside0.mk (KeepBut.trans (by repeat (first | (with_reducible first | exact HK.out | apply KeepBut.set_ | apply keep_drewN | apply keep_drew | apply keep_alloc | refine keep_far ?_ GW184.out _ | refine keep_far ?_ GW185.out _) | exact HK.out)) (KeepBut.of_below hb g none) (.inl rfl)); have n4_ := Aside0.mk (below_step (by repeat (first | (with_reducible first | exact HB.out | apply below_alloc | apply pw_below_drewN | apply below_drew1 | refine below_set ?_ (IsS98.ge HI0.out) | refine below_set ?_ GE184.out | refine below_set ?_ GE185.out) | exact HB.out)) hb); have n5_ := Aside0.mk (hbox); have n6_ := Aside0.mk ((by rw [hg]; exact (keep_size (w := w) (g := g) (row := none) (by repeat (first | (with_reducible first | exact HK.out | apply KeepBut.set_ | apply keep_drewN | apply keep_drew | apply keep_alloc | refine keep_far ?_ GW184.out _ | refine keep_far ?_ GW185.out _) | exact HK.out))) : w.heap.size ≤ gb189)); have n7_ := Aside0.mk ((Nat.le_trans HW0.out (by rw [hg]; exact (keep_size (w := w) (g := g) (row := none) (by repeat (first | (with_reducible first | exact HK.out | apply KeepBut.set_ | apply keep_drewN | apply keep_drew | apply keep_alloc | refine keep_far ?_ GW184.out _ | refine keep_far ?_ GW185.out _) | exact HK.out))) : w.heap.size ≤ gb189) : w0.heap.size ≤ gb189)); have n8_ := sqn BK184 hg; have n9_ := sqm BK184 hg; have n10_ := sqn BK185 hg; have n11_ := sqm BK185 hg; have n12_ := Aside0.mk ((by rw [hg]; exact Nat.ne_of_lt (IsS98.lt (show IsS98 w0 _ g s0_0 t188 from by repeat (first | (with_reducible first | exact HI0.out | apply IsS98.alloc | apply IsS98.drewN | apply IsS98.drew | apply IsS98.set_1 | refine IsS98.far ?_ NB0_184.out _ | refine IsS98.far ?_ NB0_185.out _) | exact HI0.out))) : g ≠ gb189)); have n13_ := Aside0.mk ((by rw [hg]; exact Nat.ne_of_gt (IsS98.lt (show IsS98 w0 _ g s0_0 t188 from by repeat (first | (with_reducible first | exact HI0.out | apply IsS98.alloc | apply IsS98.drewN | apply IsS98.drew | apply IsS98.set_1 | refine IsS98.far ?_ NB0_184.out _ | refine IsS98.far ?_ NB0_185.out _) | exact HI0.out))) : gb189 ≠ g)); clear HI0; clear BK184; clear BK185; clear HK; clear HB; have HI0 := n0_; have BK184 := n1_; have BK185 := n2_; have HK := n3_; have HB := n4_; have BK189 := n5_; have GW189 := n6_; have GE189 := n7_; have NB184_189 := n8_; have NB189_184 := n9_; have NB185_189 := n10_; have NB189_185 := n11_; have NB0_189 := n12_; have NB189_0 := n13_; clear n0_ n1_ n2_ n3_ n4_ n5_ n6_ n7_ n8_ n9_ n10_ n11_ n12_ n13_; clear hb hbox hg; have hnb9 := NB189_184.out; have hnc9 := NB184_189.out; have hnb10 := NB189_185.out; have hnc10 := NB185_189.out; have hnb11 := NB189_0.out; have hnc11 := NB0_189.out; obtain ⟨hcz12_0, hcz12_1, hfz12_0, hfz12_1⟩ := sqc2 BK189) | ((with_reducible refine gate_callee (f := 116) rfl ?_); refine sqL (some 10) Try.func116 #[.pointer (some ⟨g, 0, none⟩)] ?_; (with_reducible refine (spec_l9Wild.calls k g s0_0 t188 t190 t191 t192 w0 _ ?side1 ?side2 A3.out).mono ?_); (case side1 => repeat (first | (with_reducible first | exact HI0.out | apply IsS98.alloc | apply IsS98.drewN | apply IsS98.drew | apply IsS98.set_1 | refine IsS98.far ?_ NB0_184.out _ | refine IsS98.far ?_ NB0_185.out _ | refine IsS98.far ?_ NB0_189.out _) | exact HI0.out)); (case side2 => repeat (first | (with_reducible first | exact HB.out | apply below_alloc | apply pw_below_drewN | apply below_drew1 | refine below_set ?_ (IsS98.ge HI0.out) | refine below_set ?_ GE184.out | refine below_set ?_ GE185.out | refine below_set ?_ GE189.out) | exact HB.out)); rintro e w13 ⟨rfl, hi, hb, hk⟩; refine ⟨_, rfl, ?_⟩; have n0_ := Aside0.mk (KeepBut.blk hk (g' := gb184) (o := .cells #[.int .i64 0, .int .i64 0] 62 (0, 0)) (by refine sqt ?_; refine blk_far ?_ NB184_189.out _; refine sqt ?_; refine blk_far ?_ NB184_189.out _; refine sqt ?_; exact BK184.out) NB184_0.out (by simp)); have n1_ := Aside0.mk (KeepBut.blk hk (g' := gb185) (o := .cells #[.int .i64 0, .int .i64 0] 62 (0, 0)) (by refine sqt ?_; refine blk_far ?_ NB185_189.out _; refine sqt ?_; refine blk_far ?_ NB185_189.out _; refine sqt ?_; exact BK185.out) NB185_0.out (by simp)); have n2_ := Aside0.mk (KeepBut.blk hk (g' := gb189) (o := .cells #[.int .i64 t186, .int .i64 t187] 62 (0, 0)) (by refine sqt ?_; refine blk_put (cs := #[.int .i64 t186, .int .i64 0]) ?_ 1 _ rfl; refine sqt ?_; refine blk_put (cs := #[.int .i64 0, .int .i64 0]) ?_ 0 _ rfl; refine sqt ?_; exact BK189.out) NB189_0.out (by simp)); have n3_ := Aside0.mk (KeepBut.trans (by repeat (first | (with_reducible first | exact HK.out | apply KeepBut.set_ | apply keep_drewN | apply keep_drew | apply keep_alloc | refine keep_far ?_ GW184.out _ | refine keep_far ?_ GW185.out _ | refine keep_far ?_ GW189.out _) | exact HK.out)) hk (.inl rfl)); have n4_ := Aside0.mk (hb); have n5_ := Aside0.mk (hi); clear BK184; clear BK185; clear BK189; clear HK; clear HB; clear HI0; have BK184 := n0_; have BK185 := n1_; have BK189 := n2_; have HK := n3_; have HB := n4_; have HI0 := n5_; clear n0_ n1_ n2_ n3_ n4_ n5_; (try clear hb); (try clear hb2); (try clear hk); (try clear hi)) | ((with_reducible refine gate_dst (N := 5) rfl ?_); refine sqx 5 #[.int .i64 0, .int .i64 0] 62 ?_; intro gb193 hg w14 hbox hb; have n0_ := Aside0.mk (IsS98.below (by repeat (first | (with_reducible first | exact HI0.out | apply IsS98.alloc | apply IsS98.drewN | apply IsS98.drew | apply IsS98.set_1 | refine IsS98.far ?_ NB0_184.out _ | refine IsS98.far ?_ NB0_185.out _ | refine IsS98.far ?_ NB0_189.out _) | exact HI0.out)) hb); have n1_ := sqb BK184 hb; have n2_ := sqb BK185 hb; have n3_ := sqb BK189 hb; have n4_ := Aside0.mk (KeepBut.trans (by repeat (first | (with_reducible first | exact HK.out | apply KeepBut.set_ | apply keep_drewN | apply keep_drew | apply keep_alloc | refine keep_far ?_ GW184.out _ | refine keep_far ?_ GW185.out _ | refine keep_far ?_ GW189.out _) | exact HK.out)) (KeepBut.of_below hb g none) (.inl rfl)); have n5_ := Aside0.mk (below_step (by repeat (first | (with_reducible first | exact HB.out | apply below_alloc | apply pw_below_drewN | apply below_drew1 | refine below_set ?_ (IsS98.ge HI0.out) | refine below_set ?_ GE184.out | refine below_set ?_ GE185.out | refine below_set ?_ GE189.out) | exact HB.out)) hb); have n6_ := Aside0.mk (hbox); have n7_ := Aside0.mk ((by rw [hg]; exact (keep_size (w := w) (g := g) (row := none) (by repeat (first | (with_reducible first | exact HK.out | apply KeepBut.set_ | apply keep_drewN | apply keep_drew | apply keep_alloc | refine keep_far ?_ GW184.out _ | refine keep_far ?_ GW185.out _ | refine keep_far ?_ GW189.out _) | exact HK.out))) : w.heap.size ≤ gb193)); have n8_ := Aside0.mk ((Nat.le_trans HW0.out (by rw [hg]; exact (keep_size (w := w) (g := g) (row := none) (by repeat (first | (with_reducible first | exact HK.out | apply KeepBut.set_ | apply keep_drewN | apply keep_drew | apply keep_alloc | refine keep_far ?_ GW184.out _ | refine keep_far ?_ GW185.out _ | refine keep_far ?_ GW189.out _) | exact HK.out))) : w.heap.size ≤ gb193) : w0.heap.size ≤ gb193)); have n9_ := sqn BK184 hg; have n10_ := sqm BK184 hg; have n11_ := sqn BK185 hg; have n12_ := sqm BK185 hg; have n13_ := sqn BK189 hg; have n14_ := sqm BK189 hg; have n15_ := Aside0.mk ((by rw [hg]; exact Nat.ne_of_lt (IsS98.lt (show IsS98 w0 _ g s0_0 t192 from by repeat (first | (with_reducible first | exact HI0.out | apply IsS98.alloc | apply IsS98.drewN | apply IsS98.drew | apply IsS98.set_1 | refine IsS98.far ?_ NB0_184.out _ | refine IsS98.far ?_ NB0_185.out _ | refine IsS98.far ?_ NB0_189.out _) | exact HI0.out))) : g ≠ gb193)); have n16_ := Aside0.mk ((by rw [hg]; exact Nat.ne_of_gt (IsS98.lt (show IsS98 w0 _ g s0_0 t192 from by repeat (first | (with_reducible first | exact HI0.out | apply IsS98.alloc | apply IsS98.drewN | apply IsS98.drew | apply IsS98.set_1 | refine IsS98.far ?_ NB0_184.out _ | refine IsS98.far ?_ NB0_185.out _ | refine IsS98.far ?_ NB0_189.out _) | exact HI0.out))) : gb193 ≠ g)); clear HI0; clear BK184; clear BK185; clear BK189; clear HK; clear HB; have HI0 := n0_; have BK184 := n1_; have BK185 := n2_; have BK189 := n3_; have HK := n4_; have HB := n5_; have BK193 := n6_; have GW193 := n7_; have GE193 := n8_; have NB184_193 := n9_; have NB193_184 := n10_; have NB185_193 := n11_; have NB193_185 := n12_; have NB189_193 := n13_; have NB193_189 := n14_; have NB0_193 := n15_; have NB193_0 := n16_; clear n0_ n1_ n2_ n3_ n4_ n5_ n6_ n7_ n8_ n9_ n10_ n11_ n12_ n13_ n14_ n15_ n16_; clear hb hbox hg; have hnb15 := NB193_184.out; have hnc15 := NB184_193.out; have hnb16 := NB193_185.out; have hnc16 := NB185_193.out; have hnb17 := NB193_189.out; have hnc17 := NB189_193.out; have hnb18 := NB193_0.out; have hnc18 := NB0_193.out; obtain ⟨hcz19_0, hcz19_1, hfz19_0, hfz19_1⟩ := sqc2 BK193))
  (try simp only [Act.put, List.setIfInBounds_toArray, List.set_cons_zero, List.set_cons_succ])
  go_cut [22] (fun v22 wc => ∃ (kq : Nat) (x22_3 : Bool) (x1001_3 : Int), v22 = .bool x22_3 ∧ Aside0 (spec_l9Two.j0 kq x22_3 s0_0 x1001_3 t186 t187 t190 t191 = some (r1, r2, r3, r4, r5)) ∧ Aside0 (kq ≤ k) ∧ Aside0 (wc.heap[gb184]? = some (.cells #[.int .i64 0, .int .i64 0] 62 (0, 0))) ∧ Aside0 (wc.heap[gb185]? = some (.cells #[.int .i64 0, .int .i64 0] 62 (0, 0))) ∧ Aside0 (wc.heap[gb189]? = some (.cells #[.int .i64 t186, .int .i64 t187] 62 (0, 0))) ∧ Aside0 (wc.heap[gb193]? = some (.cells #[.int .i64 t190, .int .i64 t191] 62 (0, 0))) ∧ Aside0 (IsS98 w0 wc g s0_0 x1001_3) ∧ Aside0 (KeepBut w wc g none) ∧ Aside0 (Below w0.heap.size w0 wc))
  case first =>
    have H := HC4.out
    clear HC4
    replace H := Option.bind_eq_some_iff.mp H
    obtain ⟨⟨t194, t195⟩, A200, H⟩ := H
    replace H : (if t194 = 0 then ((spec_RestOk.f t186 t187).bind fun t196 => (if t196 = true then (spec_l9Two.j0 k (decide (t186 > 0)) s0_0 t195 t186 t187 t190 t191) else (spec_l9Two.j0 k false s0_0 t195 t186 t187 t190 t191))) else (spec_l9Two.j0 k false s0_0 t195 t186 t187 t190 t191)) = some (r1, r2, r3, r4, r5) := H
    have A20 := Aside0.mk A200
    clear A200
    by_cases c21 : t194 = 0
    · rw [if_pos c21] at H
      have c21b0 : (t194 == 0) = true := beq_iff_eq.mpr c21
      have c21b1 : (t194 != 0) = false := bne_eq_false_iff_eq.mpr c21
      clear c21
      (first | rw [c21b0] | (simp only [i64_w, i32_w]; rw [c21b0]) | skip)
      replace H := Option.bind_eq_some_iff.mp H
      obtain ⟨t196, A220, H⟩ := H
      replace H : (if t196 = true then (spec_l9Two.j0 k (decide (t186 > 0)) s0_0 t195 t186 t187 t190 t191) else (spec_l9Two.j0 k false s0_0 t195 t186 t187 t190 t191)) = some (r1, r2, r3, r4, r5) := H
      have A22 := Aside0.mk A220
      clear A220
      by_cases c23 : t196 = true
      · subst c23
        have H1 : (spec_l9Two.j0 k (decide (t186 > 0)) s0_0 t195 t186 t187 t190 t191) = some (r1, r2, r3, r4, r5) := by rw [if_pos rfl] at H; exact H
        clear H
        have H := H1
        clear H1
        have H' := Aside0.mk H
        clear H
        go_wp2_with (first | ((with_reducible refine gate_callee (f := 88) rfl ?_); refine sqL (some 12) Try.func88 #[.pointer (some ⟨g, 0, none⟩), .int .i64 3] ?_; (with_reducible refine (spec_l1Rd_pick.calls k g s0_0 t192 3 t194 t195 w0 _ ?side1 ?side2 A20.out).mono ?_); (case side1 => repeat (first | (with_reducible first | exact HI0.out | apply IsS98.alloc | apply IsS98.drewN | apply IsS98.drew | apply IsS98.set_1 | refine IsS98.far ?_ NB0_184.out _ | refine IsS98.far ?_ NB0_185.out _ | refine IsS98.far ?_ NB0_189.out _ | refine IsS98.far ?_ NB0_193.out _) | exact HI0.out)); (case side2 => repeat (first | (with_reducible first | exact HB.out | apply below_alloc | apply pw_below_drewN | apply below_drew1 | refine below_set ?_ (IsS98.ge HI0.out) | refine below_set ?_ GE184.out | refine below_set ?_ GE185.out | refine below_set ?_ GE189.out | refine below_set ?_ GE193.out) | exact HB.out)); rintro e w24 ⟨rfl, hi, hb, hk⟩; refine ⟨_, rfl, ?_⟩; have n0_ := Aside0.mk (KeepBut.blk hk (g' := gb184) (o := .cells #[.int .i64 0, .int .i64 0] 62 (0, 0)) (by refine sqt ?_; refine blk_far ?_ NB184_193.out _; refine sqt ?_; refine blk_far ?_ NB184_193.out _; refine sqt ?_; exact BK184.out) NB184_0.out (by simp)); have n1_ := Aside0.mk (KeepBut.blk hk (g' := gb185) (o := .cells #[.int .i64 0, .int .i64 0] 62 (0, 0)) (by refine sqt ?_; refine blk_far ?_ NB185_193.out _; refine sqt ?_; refine blk_far ?_ NB185_193.out _; refine sqt ?_; exact BK185.out) NB185_0.out (by simp)); have n2_ := Aside0.mk (KeepBut.blk hk (g' := gb189) (o := .cells #[.int .i64 t186, .int .i64 t187] 62 (0, 0)) (by refine sqt ?_; refine blk_far ?_ NB189_193.out _; refine sqt ?_; refine blk_far ?_ NB189_193.out _; refine sqt ?_; exact BK189.out) NB189_0.out (by simp)); have n3_ := Aside0.mk (KeepBut.blk hk (g' := gb193) (o := .cells #[.int .i64 t190, .int .i64 t191] 62 (0, 0)) (by refine sqt ?_; refine blk_put (cs := #[.int .i64 t190, .int .i64 0]) ?_ 1 _ rfl; refine sqt ?_; refine blk_put (cs := #[.int .i64 0, .int .i64 0]) ?_ 0 _ rfl; refine sqt ?_; exact BK193.out) NB193_0.out (by simp)); have n4_ := Aside0.mk (KeepBut.trans (by repeat (first | (with_reducible first | exact HK.out | apply KeepBut.set_ | apply keep_drewN | apply keep_drew | apply keep_alloc | refine keep_far ?_ GW184.out _ | refine keep_far ?_ GW185.out _ | refine keep_far ?_ GW189.out _ | refine keep_far ?_ GW193.out _) | exact HK.out)) hk (.inl rfl)); have n5_ := Aside0.mk (hb); have n6_ := Aside0.mk (hi); clear BK184; clear BK185; clear BK189; clear BK193; clear HK; clear HB; clear HI0; have BK184 := n0_; have BK185 := n1_; have BK189 := n2_; have BK193 := n3_; have HK := n4_; have HB := n5_; have HI0 := n6_; clear n0_ n1_ n2_ n3_ n4_ n5_ n6_; (try clear hb); (try clear hb2); (try clear hk); (try clear hi); have hnb25 := NB189_184.out; have hnc25 := NB184_189.out; have hnb26 := NB189_185.out; have hnc26 := NB185_189.out; have hnb27 := NB189_193.out; have hnc27 := NB193_189.out; have hnb28 := NB189_0.out; have hnc28 := NB0_189.out; obtain ⟨hcz29_0, hcz29_1, hfz29_0, hfz29_1⟩ := sqc2 BK189) | (go_at_call 59; (with_reducible refine (spec_RestOk.calls t186 t187 true _ A22.out).mono ?_); rintro e w30 ⟨rfl, hb⟩; have n0_ := Aside0.mk (IsS98.below (by repeat (first | (with_reducible first | exact HI0.out | apply IsS98.alloc | apply IsS98.drewN | apply IsS98.drew | apply IsS98.set_1 | refine IsS98.far ?_ NB0_184.out _ | refine IsS98.far ?_ NB0_185.out _ | refine IsS98.far ?_ NB0_189.out _ | refine IsS98.far ?_ NB0_193.out _) | exact HI0.out)) hb); have n1_ := sqb BK184 hb; have n2_ := sqb BK185 hb; have n3_ := sqb BK189 hb; have n4_ := sqb BK193 hb; have n5_ := Aside0.mk (KeepBut.trans (by repeat (first | (with_reducible first | exact HK.out | apply KeepBut.set_ | apply keep_drewN | apply keep_drew | apply keep_alloc | refine keep_far ?_ GW184.out _ | refine keep_far ?_ GW185.out _ | refine keep_far ?_ GW189.out _ | refine keep_far ?_ GW193.out _) | exact HK.out)) (KeepBut.of_below hb g none) (.inl rfl)); have n6_ := Aside0.mk (below_step (by repeat (first | (with_reducible first | exact HB.out | apply below_alloc | apply pw_below_drewN | apply below_drew1 | refine below_set ?_ (IsS98.ge HI0.out) | refine below_set ?_ GE184.out | refine below_set ?_ GE185.out | refine below_set ?_ GE189.out | refine below_set ?_ GE193.out) | exact HB.out)) hb); clear HI0; clear BK184; clear BK185; clear BK189; clear BK193; clear HK; clear HB; have HI0 := n0_; have BK184 := n1_; have BK185 := n2_; have BK189 := n3_; have BK193 := n4_; have HK := n5_; have HB := n6_; clear n0_ n1_ n2_ n3_ n4_ n5_ n6_; (try clear hb); obtain ⟨hcz31_0, hcz31_1, hfz31_0, hfz31_1⟩ := sqc2 BK189))
        go_meet
        case rel => exact ⟨_, (decide (t186 > 0)), (t195), (by first | rfl | (simp; done) | (simp [*]; done)), H', ⟨by first | omega | exact Nat.le_refl _⟩, sqk BK184, sqk BK185, sqk BK189, sqk BK193, ⟨by repeat (first | (with_reducible first | exact HI0.out | apply IsS98.alloc | apply IsS98.drewN | apply IsS98.drew | apply IsS98.set_1 | refine IsS98.far ?_ NB0_184.out _ | refine IsS98.far ?_ NB0_185.out _ | refine IsS98.far ?_ NB0_189.out _ | refine IsS98.far ?_ NB0_193.out _) | exact HI0.out)⟩, ⟨by repeat (first | (with_reducible first | exact HK.out | apply KeepBut.set_ | apply keep_drewN | apply keep_drew | apply keep_alloc | refine keep_far ?_ GW184.out _ | refine keep_far ?_ GW185.out _ | refine keep_far ?_ GW189.out _ | refine keep_far ?_ GW193.out _) | exact HK.out)⟩, ⟨by repeat (first | (with_reducible first | exact HB.out | apply below_alloc | apply pw_below_drewN | apply below_drew1 | refine below_set ?_ (IsS98.ge HI0.out) | refine below_set ?_ GE184.out | refine below_set ?_ GE185.out | refine below_set ?_ GE189.out | refine below_set ?_ GE193.out) | exact HB.out)⟩⟩
      · replace c23 := Bool.eq_false_iff.mpr c23
        subst c23
        have H1 : (spec_l9Two.j0 k false s0_0 t195 t186 t187 t190 t191) = some (r1, r2, r3, r4, r5) := by rw [if_neg (show ¬ (false = true) by decide)] at H; exact H
        clear H
        have H := H1
        clear H1
        have H' := Aside0.mk H
        clear H
        go_wp2_with (first | ((with_reducible refine gate_callee (f := 88) rfl ?_); refine sqL (some 12) Try.func88 #[.pointer (some ⟨g, 0, none⟩), .int .i64 3] ?_; (with_reducible refine (spec_l1Rd_pick.calls k g s0_0 t192 3 t194 t195 w0 _ ?side1 ?side2 A20.out).mono ?_); (case side1 => repeat (first | (with_reducible first | exact HI0.out | apply IsS98.alloc | apply IsS98.drewN | apply IsS98.drew | apply IsS98.set_1 | refine IsS98.far ?_ NB0_184.out _ | refine IsS98.far ?_ NB0_185.out _ | refine IsS98.far ?_ NB0_189.out _ | refine IsS98.far ?_ NB0_193.out _) | exact HI0.out)); (case side2 => repeat (first | (with_reducible first | exact HB.out | apply below_alloc | apply pw_below_drewN | apply below_drew1 | refine below_set ?_ (IsS98.ge HI0.out) | refine below_set ?_ GE184.out | refine below_set ?_ GE185.out | refine below_set ?_ GE189.out | refine below_set ?_ GE193.out) | exact HB.out)); rintro e w32 ⟨rfl, hi, hb, hk⟩; refine ⟨_, rfl, ?_⟩; have n0_ := Aside0.mk (KeepBut.blk hk (g' := gb184) (o := .cells #[.int .i64 0, .int .i64 0] 62 (0, 0)) (by refine sqt ?_; refine blk_far ?_ NB184_193.out _; refine sqt ?_; refine blk_far ?_ NB184_193.out _; refine sqt ?_; exact BK184.out) NB184_0.out (by simp)); have n1_ := Aside0.mk (KeepBut.blk hk (g' := gb185) (o := .cells #[.int .i64 0, .int .i64 0] 62 (0, 0)) (by refine sqt ?_; refine blk_far ?_ NB185_193.out _; refine sqt ?_; refine blk_far ?_ NB185_193.out _; refine sqt ?_; exact BK185.out) NB185_0.out (by simp)); have n2_ := Aside0.mk (KeepBut.blk hk (g' := gb189) (o := .cells #[.int .i64 t186, .int .i64 t187] 62 (0, 0)) (by refine sqt ?_; refine blk_far ?_ NB189_193.out _; refine sqt ?_; refine blk_far ?_ NB189_193.out _; refine sqt ?_; exact BK189.out) NB189_0.out (by simp)); have n3_ := Aside0.mk (KeepBut.blk hk (g' := gb193) (o := .cells #[.int .i64 t190, .int .i64 t191] 62 (0, 0)) (by refine sqt ?_; refine blk_put (cs := #[.int .i64 t190, .int .i64 0]) ?_ 1 _ rfl; refine sqt ?_; refine blk_put (cs := #[.int .i64 0, .int .i64 0]) ?_ 0 _ rfl; refine sqt ?_; exact BK193.out) NB193_0.out (by simp)); have n4_ := Aside0.mk (KeepBut.trans (by repeat (first | (with_reducible first | exact HK.out | apply KeepBut.set_ | apply keep_drewN | apply keep_drew | apply keep_alloc | refine keep_far ?_ GW184.out _ | refine keep_far ?_ GW185.out _ | refine keep_far ?_ GW189.out _ | refine keep_far ?_ GW193.out _) | exact HK.out)) hk (.inl rfl)); have n5_ := Aside0.mk (hb); have n6_ := Aside0.mk (hi); clear BK184; clear BK185; clear BK189; clear BK193; clear HK; clear HB; clear HI0; have BK184 := n0_; have BK185 := n1_; have BK189 := n2_; have BK193 := n3_; have HK := n4_; have HB := n5_; have HI0 := n6_; clear n0_ n1_ n2_ n3_ n4_ n5_ n6_; (try clear hb); (try clear hb2); (try clear hk); (try clear hi); have hnb33 := NB189_184.out; have hnc33 := NB184_189.out; have hnb34 := NB189_185.out; have hnc34 := NB185_189.out; have hnb35 := NB189_193.out; have hnc35 := NB193_189.out; have hnb36 := NB189_0.out; have hnc36 := NB0_189.out; obtain ⟨hcz37_0, hcz37_1, hfz37_0, hfz37_1⟩ := sqc2 BK189) | (go_at_call 59; (with_reducible refine (spec_RestOk.calls t186 t187 false _ A22.out).mono ?_); rintro e w38 ⟨rfl, hb⟩; have n0_ := Aside0.mk (IsS98.below (by repeat (first | (with_reducible first | exact HI0.out | apply IsS98.alloc | apply IsS98.drewN | apply IsS98.drew | apply IsS98.set_1 | refine IsS98.far ?_ NB0_184.out _ | refine IsS98.far ?_ NB0_185.out _ | refine IsS98.far ?_ NB0_189.out _ | refine IsS98.far ?_ NB0_193.out _) | exact HI0.out)) hb); have n1_ := sqb BK184 hb; have n2_ := sqb BK185 hb; have n3_ := sqb BK189 hb; have n4_ := sqb BK193 hb; have n5_ := Aside0.mk (KeepBut.trans (by repeat (first | (with_reducible first | exact HK.out | apply KeepBut.set_ | apply keep_drewN | apply keep_drew | apply keep_alloc | refine keep_far ?_ GW184.out _ | refine keep_far ?_ GW185.out _ | refine keep_far ?_ GW189.out _ | refine keep_far ?_ GW193.out _) | exact HK.out)) (KeepBut.of_below hb g none) (.inl rfl)); have n6_ := Aside0.mk (below_step (by repeat (first | (with_reducible first | exact HB.out | apply below_alloc | apply pw_below_drewN | apply below_drew1 | refine below_set ?_ (IsS98.ge HI0.out) | refine below_set ?_ GE184.out | refine below_set ?_ GE185.out | refine below_set ?_ GE189.out | refine below_set ?_ GE193.out) | exact HB.out)) hb); clear HI0; clear BK184; clear BK185; clear BK189; clear BK193; clear HK; clear HB; have HI0 := n0_; have BK184 := n1_; have BK185 := n2_; have BK189 := n3_; have BK193 := n4_; have HK := n5_; have HB := n6_; clear n0_ n1_ n2_ n3_ n4_ n5_ n6_; (try clear hb)))
        go_meet
        case rel => exact ⟨_, (false), (t195), (by first | rfl | (simp; done) | (simp [*]; done)), H', ⟨by first | omega | exact Nat.le_refl _⟩, sqk BK184, sqk BK185, sqk BK189, sqk BK193, ⟨by repeat (first | (with_reducible first | exact HI0.out | apply IsS98.alloc | apply IsS98.drewN | apply IsS98.drew | apply IsS98.set_1 | refine IsS98.far ?_ NB0_184.out _ | refine IsS98.far ?_ NB0_185.out _ | refine IsS98.far ?_ NB0_189.out _ | refine IsS98.far ?_ NB0_193.out _) | exact HI0.out)⟩, ⟨by repeat (first | (with_reducible first | exact HK.out | apply KeepBut.set_ | apply keep_drewN | apply keep_drew | apply keep_alloc | refine keep_far ?_ GW184.out _ | refine keep_far ?_ GW185.out _ | refine keep_far ?_ GW189.out _ | refine keep_far ?_ GW193.out _) | exact HK.out)⟩, ⟨by repeat (first | (with_reducible first | exact HB.out | apply below_alloc | apply pw_below_drewN | apply below_drew1 | refine below_set ?_ (IsS98.ge HI0.out) | refine below_set ?_ GE184.out | refine below_set ?_ GE185.out | refine below_set ?_ GE189.out | refine below_set ?_ GE193.out) | exact HB.out)⟩⟩
    · rw [if_neg c21] at H
      have c21b0 : (t194 == 0) = false := beq_eq_false_iff_ne.mpr c21
      have c21b1 : (t194 != 0) = true := bne_iff_ne.mpr c21
      (first | rw [c21b0] | (simp only [i64_w, i32_w]; rw [c21b0]) | skip)
      have H' := Aside0.mk H
      clear H
      go_wp2_with (first | ((with_reducible refine gate_callee (f := 88) rfl ?_); refine sqL (some 12) Try.func88 #[.pointer (some ⟨g, 0, none⟩), .int .i64 3] ?_; (with_reducible refine (spec_l1Rd_pick.calls k g s0_0 t192 3 t194 t195 w0 _ ?side1 ?side2 A20.out).mono ?_); (case side1 => repeat (first | (with_reducible first | exact HI0.out | apply IsS98.alloc | apply IsS98.drewN | apply IsS98.drew | apply IsS98.set_1 | refine IsS98.far ?_ NB0_184.out _ | refine IsS98.far ?_ NB0_185.out _ | refine IsS98.far ?_ NB0_189.out _ | refine IsS98.far ?_ NB0_193.out _) | exact HI0.out)); (case side2 => repeat (first | (with_reducible first | exact HB.out | apply below_alloc | apply pw_below_drewN | apply below_drew1 | refine below_set ?_ (IsS98.ge HI0.out) | refine below_set ?_ GE184.out | refine below_set ?_ GE185.out | refine below_set ?_ GE189.out | refine below_set ?_ GE193.out) | exact HB.out)); rintro e w39 ⟨rfl, hi, hb, hk⟩; refine ⟨_, rfl, ?_⟩; have n0_ := Aside0.mk (KeepBut.blk hk (g' := gb184) (o := .cells #[.int .i64 0, .int .i64 0] 62 (0, 0)) (by refine sqt ?_; refine blk_far ?_ NB184_193.out _; refine sqt ?_; refine blk_far ?_ NB184_193.out _; refine sqt ?_; exact BK184.out) NB184_0.out (by simp)); have n1_ := Aside0.mk (KeepBut.blk hk (g' := gb185) (o := .cells #[.int .i64 0, .int .i64 0] 62 (0, 0)) (by refine sqt ?_; refine blk_far ?_ NB185_193.out _; refine sqt ?_; refine blk_far ?_ NB185_193.out _; refine sqt ?_; exact BK185.out) NB185_0.out (by simp)); have n2_ := Aside0.mk (KeepBut.blk hk (g' := gb189) (o := .cells #[.int .i64 t186, .int .i64 t187] 62 (0, 0)) (by refine sqt ?_; refine blk_far ?_ NB189_193.out _; refine sqt ?_; refine blk_far ?_ NB189_193.out _; refine sqt ?_; exact BK189.out) NB189_0.out (by simp)); have n3_ := Aside0.mk (KeepBut.blk hk (g' := gb193) (o := .cells #[.int .i64 t190, .int .i64 t191] 62 (0, 0)) (by refine sqt ?_; refine blk_put (cs := #[.int .i64 t190, .int .i64 0]) ?_ 1 _ rfl; refine sqt ?_; refine blk_put (cs := #[.int .i64 0, .int .i64 0]) ?_ 0 _ rfl; refine sqt ?_; exact BK193.out) NB193_0.out (by simp)); have n4_ := Aside0.mk (KeepBut.trans (by repeat (first | (with_reducible first | exact HK.out | apply KeepBut.set_ | apply keep_drewN | apply keep_drew | apply keep_alloc | refine keep_far ?_ GW184.out _ | refine keep_far ?_ GW185.out _ | refine keep_far ?_ GW189.out _ | refine keep_far ?_ GW193.out _) | exact HK.out)) hk (.inl rfl)); have n5_ := Aside0.mk (hb); have n6_ := Aside0.mk (hi); clear BK184; clear BK185; clear BK189; clear BK193; clear HK; clear HB; clear HI0; have BK184 := n0_; have BK185 := n1_; have BK189 := n2_; have BK193 := n3_; have HK := n4_; have HB := n5_; have HI0 := n6_; clear n0_ n1_ n2_ n3_ n4_ n5_ n6_; (try clear hb); (try clear hb2); (try clear hk); (try clear hi)))
      go_meet
      case rel => exact ⟨_, (false), (t195), (by first | rfl | (simp; done) | (simp [*]; done)), H', ⟨by first | omega | exact Nat.le_refl _⟩, sqk BK184, sqk BK185, sqk BK189, sqk BK193, ⟨by repeat (first | (with_reducible first | exact HI0.out | apply IsS98.alloc | apply IsS98.drewN | apply IsS98.drew | apply IsS98.set_1 | refine IsS98.far ?_ NB0_184.out _ | refine IsS98.far ?_ NB0_185.out _ | refine IsS98.far ?_ NB0_189.out _ | refine IsS98.far ?_ NB0_193.out _) | exact HI0.out)⟩, ⟨by repeat (first | (with_reducible first | exact HK.out | apply KeepBut.set_ | apply keep_drewN | apply keep_drew | apply keep_alloc | refine keep_far ?_ GW184.out _ | refine keep_far ?_ GW185.out _ | refine keep_far ?_ GW189.out _ | refine keep_far ?_ GW193.out _) | exact HK.out)⟩, ⟨by repeat (first | (with_reducible first | exact HB.out | apply below_alloc | apply pw_below_drewN | apply below_drew1 | refine below_set ?_ (IsS98.ge HI0.out) | refine below_set ?_ GE184.out | refine below_set ?_ GE185.out | refine below_set ?_ GE189.out | refine below_set ?_ GE193.out) | exact HB.out)⟩⟩
  case rest =>
    clear HC4
    try clear hcz12_0
    try clear hcz12_1
    try clear hcz19_0
    try clear hcz19_1
    try clear hfz12_0
    try clear hfz12_1
    try clear hfz19_0
    try clear hfz19_1
    obtain ⟨kq, x22_3, x1001_3, rfl, HA, HJ3, BK184, BK185, BK189, BK193, HI0, HK, HB⟩ := hcut
    cases kq with
    | zero => exact absurd HA.out (by simp [spec_l9Two.j0])
    | succ kj3 =>
      have H := HA.out
      clear HA
      simp only [spec_l9Two.j0] at H
      by_cases c40 : x22_3 = true
      · subst c40
        have H1 : ((spec_l1Rd_pick.f kj3 s0_0 x1001_3 12).bind fun bt197 => ((spec_l9Gcd.f kj3 t186 (wrap64 (1 + bt197.1))).bind fun t199 => ((spec_l1Rd_pick.f kj3 s0_0 bt197.2 2).bind fun bt200 => ((spec_l1Mod.f (wrap64 (t187 + bt200.1)) t199).bind fun t202 => ((spec_l1Rd_pick.f kj3 s0_0 bt200.2 2).bind fun bt203 => (if bt203.1 = 0 then (some (t199, t202, t186, t187, bt203.2)) else (some (t186, t187, t199, t202, bt203.2)))))))) = some (r1, r2, r3, r4, r5) := by rw [if_pos rfl] at H; exact H
        clear H
        have H := H1
        clear H1
        replace H := Option.bind_eq_some_iff.mp H
        obtain ⟨⟨t197, t198⟩, A410, H⟩ := H
        replace H : ((spec_l9Gcd.f kj3 t186 (wrap64 (1 + t197))).bind fun t199 => ((spec_l1Rd_pick.f kj3 s0_0 t198 2).bind fun bt200 => ((spec_l1Mod.f (wrap64 (t187 + bt200.1)) t199).bind fun t202 => ((spec_l1Rd_pick.f kj3 s0_0 bt200.2 2).bind fun bt203 => (if bt203.1 = 0 then (some (t199, t202, t186, t187, bt203.2)) else (some (t186, t187, t199, t202, bt203.2))))))) = some (r1, r2, r3, r4, r5) := H
        have A41 := Aside0.mk A410
        clear A410
        replace H := Option.bind_eq_some_iff.mp H
        obtain ⟨t199, A420, H⟩ := H
        replace H : ((spec_l1Rd_pick.f kj3 s0_0 t198 2).bind fun bt200 => ((spec_l1Mod.f (wrap64 (t187 + bt200.1)) t199).bind fun t202 => ((spec_l1Rd_pick.f kj3 s0_0 bt200.2 2).bind fun bt203 => (if bt203.1 = 0 then (some (t199, t202, t186, t187, bt203.2)) else (some (t186, t187, t199, t202, bt203.2)))))) = some (r1, r2, r3, r4, r5) := H
        have A42 := Aside0.mk A420
        clear A420
        replace H := Option.bind_eq_some_iff.mp H
        obtain ⟨⟨t200, t201⟩, A430, H⟩ := H
        replace H : ((spec_l1Mod.f (wrap64 (t187 + t200)) t199).bind fun t202 => ((spec_l1Rd_pick.f kj3 s0_0 t201 2).bind fun bt203 => (if bt203.1 = 0 then (some (t199, t202, t186, t187, bt203.2)) else (some (t186, t187, t199, t202, bt203.2))))) = some (r1, r2, r3, r4, r5) := H
        have A43 := Aside0.mk A430
        clear A430
        replace H := Option.bind_eq_some_iff.mp H
        obtain ⟨t202, A440, H⟩ := H
        replace H : ((spec_l1Rd_pick.f kj3 s0_0 t201 2).bind fun bt203 => (if bt203.1 = 0 then (some (t199, t202, t186, t187, bt203.2)) else (some (t186, t187, t199, t202, bt203.2)))) = some (r1, r2, r3, r4, r5) := H
        have A44 := Aside0.mk A440
        clear A440
        replace H := Option.bind_eq_some_iff.mp H
        obtain ⟨⟨t203, t204⟩, A450, H⟩ := H
        replace H : (if t203 = 0 then (some (t199, t202, t186, t187, t204)) else (some (t186, t187, t199, t202, t204))) = some (r1, r2, r3, r4, r5) := H
        have A45 := Aside0.mk A450
        clear A450
        by_cases c46 : t203 = 0
        · rw [if_pos c46] at H
          have c46b0 : (t203 == 0) = true := beq_iff_eq.mpr c46
          have c46b1 : (t203 != 0) = false := bne_eq_false_iff_eq.mpr c46
          clear c46
          simp only [Option.some.injEq, Prod.mk.injEq] at H
          obtain ⟨rfl, rfl, rfl, rfl, rfl⟩ := H
          try go_wp2
          replace BK184 := Aside0.mk (blk_drew BK184.out)
          replace BK185 := Aside0.mk (blk_drew BK185.out)
          replace BK189 := Aside0.mk (blk_drew BK189.out)
          replace BK193 := Aside0.mk (blk_drew BK193.out)
          replace HI0 := Aside0.mk (IsS98.drew HI0.out)
          replace HK := Aside0.mk (keep_drew HK.out)
          replace HB := Aside0.mk (below_drew1 HB.out)
          refine start_ (n := 7) (S := fun w' => w'.cell? ⟨gb189, 0, none⟩ = some (.int .i64 t186) ∧ w'.cell? ⟨gb189, 1, none⟩ = some (.int .i64 t187)) (ds := []) #[false, false, false, false, false, false, false] (by kernel_rfl) rfl rfl ⟨(blk_cell BK189.out 0).trans rfl, (blk_cell BK189.out 1).trans rfl⟩ (fun hHeld => ?_)
          generalize wc.drew = w47 at BK184 BK185 BK189 BK193 HI0 HK HB hHeld ⊢
          refine pure_ (i := 0) (N := some 23) (v := ?_) (a' := ?_) #[true, false, false, false, false, false, false] rfl rfl (by kernel_rfl) (fun _ _ _ h => h) (Or.inl ⟨by rfl, ?_⟩) ?_ ?_
          rotate_left
          · intro w'
            go_simp
            with_reducible rfl
          rotate_left
          · simp only [Act.put, List.setIfInBounds_toArray, List.set_cons_zero, List.set_cons_succ, i64_w, i32_w]
            rfl
          refine pure_ (i := 2) (N := some 25) (v := ?_) (a' := ?_) #[true, false, true, false, false, false, false] rfl rfl (by kernel_rfl) (fun _ _ _ h => h) (Or.inl ⟨by rfl, ?_⟩) ?_ ?_
          rotate_left
          · intro w'
            go_simp
            with_reducible rfl
          rotate_left
          · simp only [Act.put, List.setIfInBounds_toArray, List.set_cons_zero, List.set_cons_succ, i64_w, i32_w]
            rfl
          refine take_ (i := 1) (N := some 24) (v := ?_) (a' := ?_) #[true, true, true, false, false, false, false] rfl rfl (by kernel_rfl) (fun _ _ _ h => h) (Or.inl ⟨by rfl, ?_⟩) hHeld ?_ ?_
          rotate_left
          · rintro w' ⟨s0, s1⟩
            go_simp
            with_reducible rfl
          rotate_left
          · simp only [Act.put, List.setIfInBounds_toArray, List.set_cons_zero, List.set_cons_succ, i64_w, i32_w]
            rfl
          refine one_ (i := 3) (N := some 26) #[true, true, true, true, false, false, false] rfl rfl (by kernel_rfl) (by decide) (fun K hK => ?_)
          refine sqG Try.func88 #[.pointer (some ⟨g, 0, none⟩), .int .i64 12] ?_
          with_reducible refine (spec_l1Rd_pick.calls kj3 g s0_0 x1001_3 12 t197 t198 w0 _ ?side1 ?side2 A41.out).mono ?_
          (case side1 => repeat (first | (with_reducible first | exact HI0.out | apply IsS98.alloc | apply IsS98.drewN | apply IsS98.drew | apply IsS98.set_1 | refine IsS98.far ?_ NB0_184.out _ | refine IsS98.far ?_ NB0_185.out _ | refine IsS98.far ?_ NB0_189.out _ | refine IsS98.far ?_ NB0_193.out _) | exact HI0.out))
          (case side2 => repeat (first | (with_reducible first | exact HB.out | apply below_alloc | apply pw_below_drewN | apply below_drew1 | refine below_set ?_ (IsS98.ge HI0.out) | refine below_set ?_ GE184.out | refine below_set ?_ GE185.out | refine below_set ?_ GE189.out | refine below_set ?_ GE193.out) | exact HB.out))
          rintro e w48 ⟨rfl, hi, hb, hk⟩
          refine ⟨_, rfl, ?_⟩
          have n0_ := Aside0.mk (KeepBut.blk hk (g' := gb184) (o := .cells #[.int .i64 0, .int .i64 0] 62 (0, 0)) (by refine sqt ?_; exact BK184.out) NB184_0.out (by simp))
          have n1_ := Aside0.mk (KeepBut.blk hk (g' := gb185) (o := .cells #[.int .i64 0, .int .i64 0] 62 (0, 0)) (by refine sqt ?_; exact BK185.out) NB185_0.out (by simp))
          have n2_ := Aside0.mk (KeepBut.blk hk (g' := gb189) (o := .cells #[.int .i64 t186, .int .i64 t187] 62 (0, 0)) (by refine sqt ?_; exact BK189.out) NB189_0.out (by simp))
          have n3_ := Aside0.mk (KeepBut.blk hk (g' := gb193) (o := .cells #[.int .i64 t190, .int .i64 t191] 62 (0, 0)) (by refine sqt ?_; exact BK193.out) NB193_0.out (by simp))
          have n4_ := Aside0.mk (KeepBut.trans (by repeat (first | (with_reducible first | exact HK.out | apply KeepBut.set_ | apply keep_drewN | apply keep_drew | apply keep_alloc | refine keep_far ?_ GW184.out _ | refine keep_far ?_ GW185.out _ | refine keep_far ?_ GW189.out _ | refine keep_far ?_ GW193.out _) | exact HK.out)) hk (.inl rfl))
          have n5_ := Aside0.mk (hb)
          have n6_ := Aside0.mk (hi)
          clear BK184
          clear BK185
          clear BK189
          clear BK193
          clear HK
          clear HB
          clear HI0
          have BK184 := n0_
          have BK185 := n1_
          have BK189 := n2_
          have BK193 := n3_
          have HK := n4_
          have HB := n5_
          have HI0 := n6_
          clear n0_ n1_ n2_ n3_ n4_ n5_ n6_
          (try clear hb)
          (try clear hb2)
          (try clear hk)
          (try clear hi)
          refine hK.out _ _ sqz (fun hHeld => ?_)
          clear hK K
          refine sqnm ?_
          refine pure_ (i := 4) (N := some 27) (v := ?_) (a' := ?_) #[true, true, true, true, true, false, false] rfl rfl (by kernel_rfl) (fun _ _ _ h => h) (Or.inl ⟨by rfl, ?_⟩) ?_ ?_
          rotate_left
          · intro w'
            go_simp
            with_reducible rfl
          rotate_left
          · simp only [Act.put, List.setIfInBounds_toArray, List.set_cons_zero, List.set_cons_succ, i64_w, i32_w]
            rfl
          refine one_ (i := 5) (N := some 28) #[true, true, true, true, true, true, false] rfl rfl (by kernel_rfl) (by decide) (fun K hK => ?_)
          refine sqG Try.func109 #[.int .i64 t186, .int .i64 (wrap64 (1 + t197))] ?_
          with_reducible refine (spec_l9Gcd.calls kj3 t186 (wrap64 (1 + t197)) t199 _ A42.out).mono ?_
          rintro e w' ⟨rfl, ⟨nd, rfl⟩⟩
          refine ⟨_, rfl, ?_⟩
          refine hK.out _ _ sqz (fun hHeld => ?_)
          clear hK K
          refine sqnm ?_
          refine pure_ (i := 6) (N := some 6) (v := ?_) (a' := ?_) #[true, true, true, true, true, true, true] rfl rfl (by kernel_rfl) (fun _ _ _ h => h) (Or.inl ⟨by rfl, ?_⟩) ?_ ?_
          rotate_left
          · intro w'
            go_simp
            with_reducible rfl
          rotate_left
          · simp only [Act.put, List.setIfInBounds_toArray, List.set_cons_zero, List.set_cons_succ, i64_w, i32_w]
            rfl
          refine done_ (by kernel_rfl) ?_
          try go_wp2
          (try (rw [drewN_self w48]; generalize hq_ : World.drewN w48 _ = w48; have n0_ : Aside0 (w48.heap[gb184]? = some (.cells #[.int .i64 0, .int .i64 0] 62 (0, 0))) := ⟨by rw [← hq_]; exact (by refine sqt ?_; exact BK184.out)⟩; have n1_ : Aside0 (w48.heap[gb185]? = some (.cells #[.int .i64 0, .int .i64 0] 62 (0, 0))) := ⟨by rw [← hq_]; exact (by refine sqt ?_; exact BK185.out)⟩; have n2_ : Aside0 (w48.heap[gb189]? = some (.cells #[.int .i64 t186, .int .i64 t187] 62 (0, 0))) := ⟨by rw [← hq_]; exact (by refine sqt ?_; exact BK189.out)⟩; have n3_ : Aside0 (w48.heap[gb193]? = some (.cells #[.int .i64 t190, .int .i64 t191] 62 (0, 0))) := ⟨by rw [← hq_]; exact (by refine sqt ?_; exact BK193.out)⟩; have n4_ : Aside0 (IsS98 w0 w48 g s0_0 t198) := ⟨by rw [← hq_]; exact (by repeat (first | (with_reducible first | exact HI0.out | apply IsS98.alloc | apply IsS98.drewN | apply IsS98.drew | apply IsS98.set_1 | refine IsS98.far ?_ NB0_184.out _ | refine IsS98.far ?_ NB0_185.out _ | refine IsS98.far ?_ NB0_189.out _ | refine IsS98.far ?_ NB0_193.out _) | exact HI0.out))⟩; have n5_ : Aside0 (KeepBut w w48 g none) := ⟨by rw [← hq_]; exact (by repeat (first | (with_reducible first | exact HK.out | apply KeepBut.set_ | apply keep_drewN | apply keep_drew | apply keep_alloc | refine keep_far ?_ GW184.out _ | refine keep_far ?_ GW185.out _ | refine keep_far ?_ GW189.out _ | refine keep_far ?_ GW193.out _) | exact HK.out))⟩; have n6_ : Aside0 (Below w0.heap.size w0 w48) := ⟨by rw [← hq_]; exact (by repeat (first | (with_reducible first | exact HB.out | apply below_alloc | apply pw_below_drewN | apply below_drew1 | refine below_set ?_ (IsS98.ge HI0.out) | refine below_set ?_ GE184.out | refine below_set ?_ GE185.out | refine below_set ?_ GE189.out | refine below_set ?_ GE193.out) | exact HB.out))⟩; clear BK184 BK185 BK189 BK193 HI0 HK HB hq_; have BK184 := n0_; have BK185 := n1_; have BK189 := n2_; have BK193 := n3_; have HI0 := n4_; have HK := n5_; have HB := n6_; clear n0_ n1_ n2_ n3_ n4_ n5_ n6_))
          replace BK184 := Aside0.mk (blk_drew BK184.out)
          replace BK185 := Aside0.mk (blk_drew BK185.out)
          replace BK189 := Aside0.mk (blk_drew BK189.out)
          replace BK193 := Aside0.mk (blk_drew BK193.out)
          replace HI0 := Aside0.mk (IsS98.drew HI0.out)
          replace HK := Aside0.mk (keep_drew HK.out)
          replace HB := Aside0.mk (below_drew1 HB.out)
          refine start_ (n := 10) (S := fun w' => w'.cell? ⟨gb189, 0, none⟩ = some (.int .i64 t186) ∧ w'.cell? ⟨gb189, 1, none⟩ = some (.int .i64 t187)) (ds := []) #[false, false, false, false, false, false, false, false, false, false] (by kernel_rfl) rfl rfl ⟨(blk_cell BK189.out 0).trans rfl, (blk_cell BK189.out 1).trans rfl⟩ (fun hHeld => ?_); refine with_tabW spec_l9Two.tab5 spec_l9Two.bits5 (fun HT_ HW_ => ?_)
          generalize w48.drew = w49 at BK184 BK185 BK189 BK193 HI0 HK HB hHeld ⊢
          refine sqp HT_ 0 29 ?_
          refine sqp HT_ 1 30 ?_
          refine sqp HT_ 3 32 ?_
          refine sqp HT_ 6 35 ?_
          refine sqw HT_ HW_ 2 31 hHeld ?_
          refine sqo HT_ 4 33 (fun K hK => ?_)
          refine sqG Try.func88 #[.pointer (some ⟨g, 0, none⟩), .int .i64 2] ?_
          with_reducible refine (spec_l1Rd_pick.calls kj3 g s0_0 t198 2 t200 t201 w0 _ ?side1 ?side2 A43.out).mono ?_
          (case side1 => repeat (first | (with_reducible first | exact HI0.out | apply IsS98.alloc | apply IsS98.drewN | apply IsS98.drew | apply IsS98.set_1 | refine IsS98.far ?_ NB0_184.out _ | refine IsS98.far ?_ NB0_185.out _ | refine IsS98.far ?_ NB0_189.out _ | refine IsS98.far ?_ NB0_193.out _) | exact HI0.out))
          (case side2 => repeat (first | (with_reducible first | exact HB.out | apply below_alloc | apply pw_below_drewN | apply below_drew1 | refine below_set ?_ (IsS98.ge HI0.out) | refine below_set ?_ GE184.out | refine below_set ?_ GE185.out | refine below_set ?_ GE189.out | refine below_set ?_ GE193.out) | exact HB.out))
          rintro e w50 ⟨rfl, hi, hb, hk⟩
          refine ⟨_, rfl, ?_⟩
          have n0_ := Aside0.mk (KeepBut.blk hk (g' := gb184) (o := .cells #[.int .i64 0, .int .i64 0] 62 (0, 0)) (by refine sqt ?_; exact BK184.out) NB184_0.out (by simp))
          have n1_ := Aside0.mk (KeepBut.blk hk (g' := gb185) (o := .cells #[.int .i64 0, .int .i64 0] 62 (0, 0)) (by refine sqt ?_; exact BK185.out) NB185_0.out (by simp))
          have n2_ := Aside0.mk (KeepBut.blk hk (g' := gb189) (o := .cells #[.int .i64 t186, .int .i64 t187] 62 (0, 0)) (by refine sqt ?_; exact BK189.out) NB189_0.out (by simp))
          have n3_ := Aside0.mk (KeepBut.blk hk (g' := gb193) (o := .cells #[.int .i64 t190, .int .i64 t191] 62 (0, 0)) (by refine sqt ?_; exact BK193.out) NB193_0.out (by simp))
          have n4_ := Aside0.mk (KeepBut.trans (by repeat (first | (with_reducible first | exact HK.out | apply KeepBut.set_ | apply keep_drewN | apply keep_drew | apply keep_alloc | refine keep_far ?_ GW184.out _ | refine keep_far ?_ GW185.out _ | refine keep_far ?_ GW189.out _ | refine keep_far ?_ GW193.out _) | exact HK.out)) hk (.inl rfl))
          have n5_ := Aside0.mk (hb)
          have n6_ := Aside0.mk (hi)
          clear BK184
          clear BK185
          clear BK189
          clear BK193
          clear HK
          clear HB
          clear HI0
          have BK184 := n0_
          have BK185 := n1_
          have BK189 := n2_
          have BK193 := n3_
          have HK := n4_
          have HB := n5_
          have HI0 := n6_
          clear n0_ n1_ n2_ n3_ n4_ n5_ n6_
          (try clear hb)
          (try clear hb2)
          (try clear hk)
          (try clear hi)
          refine hK.out _ _ sqz (fun hHeld => ?_)
          clear hK K
          refine sqnm ?_
          refine sqp HT_ 5 34 ?_
          refine sqo HT_ 7 36 (fun K hK => ?_)
          refine sqG Try.func100 #[.int .i64 (wrap64 (t187 + t200)), .int .i64 t199] ?_
          with_reducible refine (spec_l1Mod.calls (wrap64 (t187 + t200)) t199 t202 _ A44.out).mono ?_
          rintro e w' ⟨rfl, ⟨nd, rfl⟩⟩
          refine ⟨_, rfl, ?_⟩
          refine hK.out _ _ sqz (fun hHeld => ?_)
          clear hK K
          refine sqnm ?_
          refine sqp HT_ 8 37 ?_
          refine one_ (i := 9) (N := none) #[true, true, true, true, true, true, true, true, true, true] rfl rfl (one_of HT_.out (by kernel_rfl)) (by decide) (fun K hK => ?_)
          have hs51 : w50.cell? ⟨gb193, 0, none⟩ = some (.int .i64 t190) := (blk_cell BK193.out 0).trans rfl
          have hfs51 := blk_frozen BK193.out 0
          have hns51_0 := NB184_193.out
          have hns51_1 := NB185_193.out
          have hns51_2 := NB189_193.out
          have hms51_0 := NB193_184.out
          have hms51_1 := NB193_185.out
          have hms51_2 := NB193_189.out
          have hs52 : w50.cell? ⟨gb193, 1, none⟩ = some (.int .i64 t191) := (blk_cell BK193.out 1).trans rfl
          have hfs52 := blk_frozen BK193.out 1
          have hns52_0 := NB184_193.out
          have hns52_1 := NB185_193.out
          have hns52_2 := NB189_193.out
          have hms52_0 := NB193_184.out
          have hms52_1 := NB193_185.out
          have hms52_2 := NB193_189.out
          refine skip_ (w1 := ?_) (by rfl) rfl ?_ ?_
          rotate_left
          · go_simp
            rfl
          refine hK.out _ _ ⟨((cell_far (p := ⟨gb193, _, none⟩) NB189_193.out _).trans (((cell_far (p := ⟨gb193, _, none⟩) NB189_193.out _).trans (hHeld.1)))), ((cell_far (p := ⟨gb193, _, none⟩) NB189_193.out _).trans (((cell_far (p := ⟨gb193, _, none⟩) NB189_193.out _).trans (hHeld.2))))⟩ (fun hHeld => ?_)
          clear hK K
          refine done_ (done_of HT_.out (by kernel_rfl)) ?_
          try go_wp2_with (first | ((with_reducible refine gate_callee (f := 88) rfl ?_); refine sqL (some 39) Try.func88 #[.pointer (some ⟨g, 0, none⟩), .int .i64 2] ?_; (with_reducible refine (spec_l1Rd_pick.calls kj3 g s0_0 t201 2 t203 t204 w0 _ ?side1 ?side2 A45.out).mono ?_); (case side1 => repeat (first | (with_reducible first | exact HI0.out | apply IsS98.alloc | apply IsS98.drewN | apply IsS98.drew | apply IsS98.set_1 | refine IsS98.far ?_ NB0_184.out _ | refine IsS98.far ?_ NB0_185.out _ | refine IsS98.far ?_ NB0_189.out _ | refine IsS98.far ?_ NB0_193.out _) | exact HI0.out)); (case side2 => repeat (first | (with_reducible first | exact HB.out | apply below_alloc | apply pw_below_drewN | apply below_drew1 | refine below_set ?_ (IsS98.ge HI0.out) | refine below_set ?_ GE184.out | refine below_set ?_ GE185.out | refine below_set ?_ GE189.out | refine below_set ?_ GE193.out) | exact HB.out)); rintro e w53 ⟨rfl, hi, hb, hk⟩; refine ⟨_, rfl, ?_⟩; have n0_ := Aside0.mk (KeepBut.blk hk (g' := gb184) (o := .cells #[.int .i64 0, .int .i64 0] 62 (0, 0)) (by refine sqt ?_; refine blk_far ?_ NB184_193.out _; refine sqt ?_; refine blk_far ?_ NB184_193.out _; refine sqt ?_; exact BK184.out) NB184_0.out (by simp)); have n1_ := Aside0.mk (KeepBut.blk hk (g' := gb185) (o := .cells #[.int .i64 0, .int .i64 0] 62 (0, 0)) (by refine sqt ?_; refine blk_far ?_ NB185_193.out _; refine sqt ?_; refine blk_far ?_ NB185_193.out _; refine sqt ?_; exact BK185.out) NB185_0.out (by simp)); have n2_ := Aside0.mk (KeepBut.blk hk (g' := gb189) (o := .cells #[.int .i64 t186, .int .i64 t187] 62 (0, 0)) (by refine sqt ?_; refine blk_far ?_ NB189_193.out _; refine sqt ?_; refine blk_far ?_ NB189_193.out _; refine sqt ?_; exact BK189.out) NB189_0.out (by simp)); have n3_ := Aside0.mk (KeepBut.blk hk (g' := gb193) (o := .cells #[.int .i64 t199, .int .i64 t202] 62 (0, 0)) (by refine sqt ?_; refine blk_put (cs := #[.int .i64 t199, .int .i64 t191]) ?_ 1 _ rfl; refine sqt ?_; refine blk_put (cs := #[.int .i64 t190, .int .i64 t191]) ?_ 0 _ rfl; refine sqt ?_; exact BK193.out) NB193_0.out (by simp)); have n4_ := Aside0.mk (KeepBut.trans (by repeat (first | (with_reducible first | exact HK.out | apply KeepBut.set_ | apply keep_drewN | apply keep_drew | apply keep_alloc | refine keep_far ?_ GW184.out _ | refine keep_far ?_ GW185.out _ | refine keep_far ?_ GW189.out _ | refine keep_far ?_ GW193.out _) | exact HK.out)) hk (.inl rfl)); have n5_ := Aside0.mk (hb); have n6_ := Aside0.mk (hi); clear BK184; clear BK185; clear BK189; clear BK193; clear HK; clear HB; clear HI0; have BK184 := n0_; have BK185 := n1_; have BK189 := n2_; have BK193 := n3_; have HK := n4_; have HB := n5_; have HI0 := n6_; clear n0_ n1_ n2_ n3_ n4_ n5_ n6_; (try clear hb); (try clear hb2); (try clear hk); (try clear hi)))
          replace BK184 := Aside0.mk (blk_drew BK184.out)
          replace BK185 := Aside0.mk (blk_drew BK185.out)
          replace BK189 := Aside0.mk (blk_drew BK189.out)
          replace BK193 := Aside0.mk (blk_drew BK193.out)
          replace HI0 := Aside0.mk (IsS98.drew HI0.out)
          replace HK := Aside0.mk (keep_drew HK.out)
          replace HB := Aside0.mk (below_drew1 HB.out)
          refine start_ (n := 4) (S := fun w' => w'.cell? ⟨gb193, 0, none⟩ = some (.int .i64 t199) ∧ w'.cell? ⟨gb193, 1, none⟩ = some (.int .i64 t202) ∧ w'.cell? ⟨gb189, 0, none⟩ = some (.int .i64 t186) ∧ w'.cell? ⟨gb189, 1, none⟩ = some (.int .i64 t187)) (ds := []) #[false, false, false, false] (by kernel_rfl) rfl rfl ⟨(blk_cell BK193.out 0).trans rfl, (blk_cell BK193.out 1).trans rfl, (blk_cell BK189.out 0).trans rfl, (blk_cell BK189.out 1).trans rfl⟩ (fun hHeld => ?_)
          generalize w53.drew = w54 at BK184 BK185 BK189 BK193 HI0 HK HB hHeld ⊢
          refine take_ (i := 0) (N := some 41) (v := ?_) (a' := ?_) #[true, false, false, false] rfl rfl (by kernel_rfl) (fun _ _ _ h => h) (Or.inl ⟨by rfl, ?_⟩) hHeld ?_ ?_
          rotate_left
          · rintro w' ⟨s0, s1, s2, s3⟩
            go_simp
            with_reducible rfl
          rotate_left
          · simp only [Act.put, List.setIfInBounds_toArray, List.set_cons_zero, List.set_cons_succ, i64_w, i32_w]
            rfl
          refine take_ (i := 1) (N := some 42) (v := ?_) (a' := ?_) #[true, true, false, false] rfl rfl (by kernel_rfl) (fun _ _ _ h => h) (Or.inl ⟨by rfl, ?_⟩) hHeld ?_ ?_
          rotate_left
          · rintro w' ⟨s0, s1, s2, s3⟩
            go_simp
            with_reducible rfl
          rotate_left
          · simp only [Act.put, List.setIfInBounds_toArray, List.set_cons_zero, List.set_cons_succ, i64_w, i32_w]
            rfl
          refine one_ (i := 2) (N := none) #[true, true, true, false] rfl rfl (by kernel_rfl) (by decide) (fun K hK => ?_)
          have hs55 : w54.cell? ⟨gb184, 0, none⟩ = some (.int .i64 0) := (blk_cell BK184.out 0).trans rfl
          have hfs55 := blk_frozen BK184.out 0
          have hns55_1 := NB185_184.out
          have hns55_2 := NB189_184.out
          have hns55_3 := NB193_184.out
          have hms55_1 := NB184_185.out
          have hms55_2 := NB184_189.out
          have hms55_3 := NB184_193.out
          have hs56 : w54.cell? ⟨gb184, 1, none⟩ = some (.int .i64 0) := (blk_cell BK184.out 1).trans rfl
          have hfs56 := blk_frozen BK184.out 1
          have hns56_1 := NB185_184.out
          have hns56_2 := NB189_184.out
          have hns56_3 := NB193_184.out
          have hms56_1 := NB184_185.out
          have hms56_2 := NB184_189.out
          have hms56_3 := NB184_193.out
          refine skip_ (w1 := ?_) (by rfl) rfl ?_ ?_
          rotate_left
          · go_simp
            rfl
          refine hK.out _ _ ⟨((cell_far (p := ⟨gb184, _, none⟩) NB193_184.out _).trans (((cell_far (p := ⟨gb184, _, none⟩) NB193_184.out _).trans (hHeld.1)))), ((cell_far (p := ⟨gb184, _, none⟩) NB193_184.out _).trans (((cell_far (p := ⟨gb184, _, none⟩) NB193_184.out _).trans (hHeld.2.1)))), ((cell_far (p := ⟨gb184, _, none⟩) NB189_184.out _).trans (((cell_far (p := ⟨gb184, _, none⟩) NB189_184.out _).trans (hHeld.2.2.1)))), ((cell_far (p := ⟨gb184, _, none⟩) NB189_184.out _).trans (((cell_far (p := ⟨gb184, _, none⟩) NB189_184.out _).trans (hHeld.2.2.2))))⟩ (fun hHeld => ?_)
          clear hK K
          refine one_ (i := 3) (N := none) #[true, true, true, true] rfl rfl (by kernel_rfl) (by decide) (fun K hK => ?_)
          have hs57 : w54.cell? ⟨gb185, 0, none⟩ = some (.int .i64 0) := (blk_cell BK185.out 0).trans rfl
          have hfs57 := blk_frozen BK185.out 0
          have hns57_0 := NB184_185.out
          have hns57_2 := NB189_185.out
          have hns57_3 := NB193_185.out
          have hms57_0 := NB185_184.out
          have hms57_2 := NB185_189.out
          have hms57_3 := NB185_193.out
          have hs58 : w54.cell? ⟨gb185, 1, none⟩ = some (.int .i64 0) := (blk_cell BK185.out 1).trans rfl
          have hfs58 := blk_frozen BK185.out 1
          have hns58_0 := NB184_185.out
          have hns58_2 := NB189_185.out
          have hns58_3 := NB193_185.out
          have hms58_0 := NB185_184.out
          have hms58_2 := NB185_189.out
          have hms58_3 := NB185_193.out
          refine skip_ (w1 := ?_) (by rfl) rfl ?_ ?_
          rotate_left
          · go_simp
            rfl
          refine hK.out _ _ ⟨((cell_far (p := ⟨gb185, _, none⟩) NB193_185.out _).trans (((cell_far (p := ⟨gb185, _, none⟩) NB193_185.out _).trans (hHeld.1)))), ((cell_far (p := ⟨gb185, _, none⟩) NB193_185.out _).trans (((cell_far (p := ⟨gb185, _, none⟩) NB193_185.out _).trans (hHeld.2.1)))), ((cell_far (p := ⟨gb185, _, none⟩) NB189_185.out _).trans (((cell_far (p := ⟨gb185, _, none⟩) NB189_185.out _).trans (hHeld.2.2.1)))), ((cell_far (p := ⟨gb185, _, none⟩) NB189_185.out _).trans (((cell_far (p := ⟨gb185, _, none⟩) NB189_185.out _).trans (hHeld.2.2.2))))⟩ (fun hHeld => ?_)
          clear hK K
          refine done_ (by kernel_rfl) ?_
          try go_wp2
          refine bodyPost_ret (results_cc rfl _ _ gb184 gb185 62 62 #[.int .i64 t199, .int .i64 t202] #[.int .i64 t186, .int .i64 t187] (0, 0) (0, 0) _ _ rfl (by refine sqt ?_; refine blk_far ?_ NB184_185.out _; refine sqt ?_; refine blk_far ?_ NB184_185.out _; refine sqt ?_; refine blk_put (cs := #[.int .i64 t199, .int .i64 0]) ?_ 1 _ rfl; refine sqt ?_; refine blk_put (cs := #[.int .i64 0, .int .i64 0]) ?_ 0 _ rfl; refine sqt ?_; exact BK184.out) Try.underlying62 rfl (by kernel_rfl) rfl (by refine sqt ?_; refine blk_put (cs := #[.int .i64 t186, .int .i64 0]) ?_ 1 _ rfl; refine sqt ?_; refine blk_put (cs := #[.int .i64 0, .int .i64 0]) ?_ 0 _ rfl; refine sqt ?_; refine blk_far ?_ NB185_184.out _; refine sqt ?_; refine blk_far ?_ NB185_184.out _; refine sqt ?_; exact BK185.out) Try.underlying62 rfl (by kernel_rfl)) rfl ?_
          exact ⟨by first | rfl | (simp [errW_none, errW_some] <;> rfl) | (simp [*, errW_none, errW_some] <;> rfl), by repeat (first | (with_reducible first | exact HI0.out | apply IsS98.alloc | apply IsS98.drewN | apply IsS98.drew | apply IsS98.set_1 | refine IsS98.far ?_ NB0_184.out _ | refine IsS98.far ?_ NB0_185.out _ | refine IsS98.far ?_ NB0_189.out _ | refine IsS98.far ?_ NB0_193.out _) | exact HI0.out), by repeat (first | (with_reducible first | exact HB.out | apply below_alloc | apply pw_below_drewN | apply below_drew1 | refine below_set ?_ (IsS98.ge HI0.out) | refine below_set ?_ GE184.out | refine below_set ?_ GE185.out | refine below_set ?_ GE189.out | refine below_set ?_ GE193.out) | exact HB.out), by repeat (first | (with_reducible first | exact HK.out | apply KeepBut.set_ | apply keep_drewN | apply keep_drew | apply keep_alloc | refine keep_far ?_ GW184.out _ | refine keep_far ?_ GW185.out _ | refine keep_far ?_ GW189.out _ | refine keep_far ?_ GW193.out _) | exact HK.out)⟩
        · rw [if_neg c46] at H
          have c46b0 : (t203 == 0) = false := beq_eq_false_iff_ne.mpr c46
          have c46b1 : (t203 != 0) = true := bne_iff_ne.mpr c46
          simp only [Option.some.injEq, Prod.mk.injEq] at H
          obtain ⟨rfl, rfl, rfl, rfl, rfl⟩ := H
          try go_wp2
          replace BK184 := Aside0.mk (blk_drew BK184.out)
          replace BK185 := Aside0.mk (blk_drew BK185.out)
          replace BK189 := Aside0.mk (blk_drew BK189.out)
          replace BK193 := Aside0.mk (blk_drew BK193.out)
          replace HI0 := Aside0.mk (IsS98.drew HI0.out)
          replace HK := Aside0.mk (keep_drew HK.out)
          replace HB := Aside0.mk (below_drew1 HB.out)
          refine start_ (n := 7) (S := fun w' => w'.cell? ⟨gb189, 0, none⟩ = some (.int .i64 t186) ∧ w'.cell? ⟨gb189, 1, none⟩ = some (.int .i64 t187)) (ds := []) #[false, false, false, false, false, false, false] (by kernel_rfl) rfl rfl ⟨(blk_cell BK189.out 0).trans rfl, (blk_cell BK189.out 1).trans rfl⟩ (fun hHeld => ?_)
          generalize wc.drew = w59 at BK184 BK185 BK189 BK193 HI0 HK HB hHeld ⊢
          refine pure_ (i := 0) (N := some 23) (v := ?_) (a' := ?_) #[true, false, false, false, false, false, false] rfl rfl (by kernel_rfl) (fun _ _ _ h => h) (Or.inl ⟨by rfl, ?_⟩) ?_ ?_
          rotate_left
          · intro w'
            go_simp
            with_reducible rfl
          rotate_left
          · simp only [Act.put, List.setIfInBounds_toArray, List.set_cons_zero, List.set_cons_succ, i64_w, i32_w]
            rfl
          refine pure_ (i := 2) (N := some 25) (v := ?_) (a' := ?_) #[true, false, true, false, false, false, false] rfl rfl (by kernel_rfl) (fun _ _ _ h => h) (Or.inl ⟨by rfl, ?_⟩) ?_ ?_
          rotate_left
          · intro w'
            go_simp
            with_reducible rfl
          rotate_left
          · simp only [Act.put, List.setIfInBounds_toArray, List.set_cons_zero, List.set_cons_succ, i64_w, i32_w]
            rfl
          refine take_ (i := 1) (N := some 24) (v := ?_) (a' := ?_) #[true, true, true, false, false, false, false] rfl rfl (by kernel_rfl) (fun _ _ _ h => h) (Or.inl ⟨by rfl, ?_⟩) hHeld ?_ ?_
          rotate_left
          · rintro w' ⟨s0, s1⟩
            go_simp
            with_reducible rfl
          rotate_left
          · simp only [Act.put, List.setIfInBounds_toArray, List.set_cons_zero, List.set_cons_succ, i64_w, i32_w]
            rfl
          refine one_ (i := 3) (N := some 26) #[true, true, true, true, false, false, false] rfl rfl (by kernel_rfl) (by decide) (fun K hK => ?_)
          refine sqG Try.func88 #[.pointer (some ⟨g, 0, none⟩), .int .i64 12] ?_
          with_reducible refine (spec_l1Rd_pick.calls kj3 g s0_0 x1001_3 12 t197 t198 w0 _ ?side1 ?side2 A41.out).mono ?_
          (case side1 => repeat (first | (with_reducible first | exact HI0.out | apply IsS98.alloc | apply IsS98.drewN | apply IsS98.drew | apply IsS98.set_1 | refine IsS98.far ?_ NB0_184.out _ | refine IsS98.far ?_ NB0_185.out _ | refine IsS98.far ?_ NB0_189.out _ | refine IsS98.far ?_ NB0_193.out _) | exact HI0.out))
          (case side2 => repeat (first | (with_reducible first | exact HB.out | apply below_alloc | apply pw_below_drewN | apply below_drew1 | refine below_set ?_ (IsS98.ge HI0.out) | refine below_set ?_ GE184.out | refine below_set ?_ GE185.out | refine below_set ?_ GE189.out | refine below_set ?_ GE193.out) | exact HB.out))
          rintro e w60 ⟨rfl, hi, hb, hk⟩
          refine ⟨_, rfl, ?_⟩
          have n0_ := Aside0.mk (KeepBut.blk hk (g' := gb184) (o := .cells #[.int .i64 0, .int .i64 0] 62 (0, 0)) (by refine sqt ?_; exact BK184.out) NB184_0.out (by simp))
          have n1_ := Aside0.mk (KeepBut.blk hk (g' := gb185) (o := .cells #[.int .i64 0, .int .i64 0] 62 (0, 0)) (by refine sqt ?_; exact BK185.out) NB185_0.out (by simp))
          have n2_ := Aside0.mk (KeepBut.blk hk (g' := gb189) (o := .cells #[.int .i64 t186, .int .i64 t187] 62 (0, 0)) (by refine sqt ?_; exact BK189.out) NB189_0.out (by simp))
          have n3_ := Aside0.mk (KeepBut.blk hk (g' := gb193) (o := .cells #[.int .i64 t190, .int .i64 t191] 62 (0, 0)) (by refine sqt ?_; exact BK193.out) NB193_0.out (by simp))
          have n4_ := Aside0.mk (KeepBut.trans (by repeat (first | (with_reducible first | exact HK.out | apply KeepBut.set_ | apply keep_drewN | apply keep_drew | apply keep_alloc | refine keep_far ?_ GW184.out _ | refine keep_far ?_ GW185.out _ | refine keep_far ?_ GW189.out _ | refine keep_far ?_ GW193.out _) | exact HK.out)) hk (.inl rfl))
          have n5_ := Aside0.mk (hb)
          have n6_ := Aside0.mk (hi)
          clear BK184
          clear BK185
          clear BK189
          clear BK193
          clear HK
          clear HB
          clear HI0
          have BK184 := n0_
          have BK185 := n1_
          have BK189 := n2_
          have BK193 := n3_
          have HK := n4_
          have HB := n5_
          have HI0 := n6_
          clear n0_ n1_ n2_ n3_ n4_ n5_ n6_
          (try clear hb)
          (try clear hb2)
          (try clear hk)
          (try clear hi)
          refine hK.out _ _ sqz (fun hHeld => ?_)
          clear hK K
          refine sqnm ?_
          refine pure_ (i := 4) (N := some 27) (v := ?_) (a' := ?_) #[true, true, true, true, true, false, false] rfl rfl (by kernel_rfl) (fun _ _ _ h => h) (Or.inl ⟨by rfl, ?_⟩) ?_ ?_
          rotate_left
          · intro w'
            go_simp
            with_reducible rfl
          rotate_left
          · simp only [Act.put, List.setIfInBounds_toArray, List.set_cons_zero, List.set_cons_succ, i64_w, i32_w]
            rfl
          refine one_ (i := 5) (N := some 28) #[true, true, true, true, true, true, false] rfl rfl (by kernel_rfl) (by decide) (fun K hK => ?_)
          refine sqG Try.func109 #[.int .i64 t186, .int .i64 (wrap64 (1 + t197))] ?_
          with_reducible refine (spec_l9Gcd.calls kj3 t186 (wrap64 (1 + t197)) t199 _ A42.out).mono ?_
          rintro e w' ⟨rfl, ⟨nd, rfl⟩⟩
          refine ⟨_, rfl, ?_⟩
          refine hK.out _ _ sqz (fun hHeld => ?_)
          clear hK K
          refine sqnm ?_
          refine pure_ (i := 6) (N := some 6) (v := ?_) (a' := ?_) #[true, true, true, true, true, true, true] rfl rfl (by kernel_rfl) (fun _ _ _ h => h) (Or.inl ⟨by rfl, ?_⟩) ?_ ?_
          rotate_left
          · intro w'
            go_simp
            with_reducible rfl
          rotate_left
          · simp only [Act.put, List.setIfInBounds_toArray, List.set_cons_zero, List.set_cons_succ, i64_w, i32_w]
            rfl
          refine done_ (by kernel_rfl) ?_
          try go_wp2
          (try (rw [drewN_self w60]; generalize hq_ : World.drewN w60 _ = w60; have n0_ : Aside0 (w60.heap[gb184]? = some (.cells #[.int .i64 0, .int .i64 0] 62 (0, 0))) := ⟨by rw [← hq_]; exact (by refine sqt ?_; exact BK184.out)⟩; have n1_ : Aside0 (w60.heap[gb185]? = some (.cells #[.int .i64 0, .int .i64 0] 62 (0, 0))) := ⟨by rw [← hq_]; exact (by refine sqt ?_; exact BK185.out)⟩; have n2_ : Aside0 (w60.heap[gb189]? = some (.cells #[.int .i64 t186, .int .i64 t187] 62 (0, 0))) := ⟨by rw [← hq_]; exact (by refine sqt ?_; exact BK189.out)⟩; have n3_ : Aside0 (w60.heap[gb193]? = some (.cells #[.int .i64 t190, .int .i64 t191] 62 (0, 0))) := ⟨by rw [← hq_]; exact (by refine sqt ?_; exact BK193.out)⟩; have n4_ : Aside0 (IsS98 w0 w60 g s0_0 t198) := ⟨by rw [← hq_]; exact (by repeat (first | (with_reducible first | exact HI0.out | apply IsS98.alloc | apply IsS98.drewN | apply IsS98.drew | apply IsS98.set_1 | refine IsS98.far ?_ NB0_184.out _ | refine IsS98.far ?_ NB0_185.out _ | refine IsS98.far ?_ NB0_189.out _ | refine IsS98.far ?_ NB0_193.out _) | exact HI0.out))⟩; have n5_ : Aside0 (KeepBut w w60 g none) := ⟨by rw [← hq_]; exact (by repeat (first | (with_reducible first | exact HK.out | apply KeepBut.set_ | apply keep_drewN | apply keep_drew | apply keep_alloc | refine keep_far ?_ GW184.out _ | refine keep_far ?_ GW185.out _ | refine keep_far ?_ GW189.out _ | refine keep_far ?_ GW193.out _) | exact HK.out))⟩; have n6_ : Aside0 (Below w0.heap.size w0 w60) := ⟨by rw [← hq_]; exact (by repeat (first | (with_reducible first | exact HB.out | apply below_alloc | apply pw_below_drewN | apply below_drew1 | refine below_set ?_ (IsS98.ge HI0.out) | refine below_set ?_ GE184.out | refine below_set ?_ GE185.out | refine below_set ?_ GE189.out | refine below_set ?_ GE193.out) | exact HB.out))⟩; clear BK184 BK185 BK189 BK193 HI0 HK HB hq_; have BK184 := n0_; have BK185 := n1_; have BK189 := n2_; have BK193 := n3_; have HI0 := n4_; have HK := n5_; have HB := n6_; clear n0_ n1_ n2_ n3_ n4_ n5_ n6_))
          replace BK184 := Aside0.mk (blk_drew BK184.out)
          replace BK185 := Aside0.mk (blk_drew BK185.out)
          replace BK189 := Aside0.mk (blk_drew BK189.out)
          replace BK193 := Aside0.mk (blk_drew BK193.out)
          replace HI0 := Aside0.mk (IsS98.drew HI0.out)
          replace HK := Aside0.mk (keep_drew HK.out)
          replace HB := Aside0.mk (below_drew1 HB.out)
          refine start_ (n := 10) (S := fun w' => w'.cell? ⟨gb189, 0, none⟩ = some (.int .i64 t186) ∧ w'.cell? ⟨gb189, 1, none⟩ = some (.int .i64 t187)) (ds := []) #[false, false, false, false, false, false, false, false, false, false] (by kernel_rfl) rfl rfl ⟨(blk_cell BK189.out 0).trans rfl, (blk_cell BK189.out 1).trans rfl⟩ (fun hHeld => ?_); refine with_tabW spec_l9Two.tab5 spec_l9Two.bits5 (fun HT_ HW_ => ?_)
          generalize w60.drew = w61 at BK184 BK185 BK189 BK193 HI0 HK HB hHeld ⊢
          refine sqp HT_ 0 29 ?_
          refine sqp HT_ 1 30 ?_
          refine sqp HT_ 3 32 ?_
          refine sqp HT_ 6 35 ?_
          refine sqw HT_ HW_ 2 31 hHeld ?_
          refine sqo HT_ 4 33 (fun K hK => ?_)
          refine sqG Try.func88 #[.pointer (some ⟨g, 0, none⟩), .int .i64 2] ?_
          with_reducible refine (spec_l1Rd_pick.calls kj3 g s0_0 t198 2 t200 t201 w0 _ ?side1 ?side2 A43.out).mono ?_
          (case side1 => repeat (first | (with_reducible first | exact HI0.out | apply IsS98.alloc | apply IsS98.drewN | apply IsS98.drew | apply IsS98.set_1 | refine IsS98.far ?_ NB0_184.out _ | refine IsS98.far ?_ NB0_185.out _ | refine IsS98.far ?_ NB0_189.out _ | refine IsS98.far ?_ NB0_193.out _) | exact HI0.out))
          (case side2 => repeat (first | (with_reducible first | exact HB.out | apply below_alloc | apply pw_below_drewN | apply below_drew1 | refine below_set ?_ (IsS98.ge HI0.out) | refine below_set ?_ GE184.out | refine below_set ?_ GE185.out | refine below_set ?_ GE189.out | refine below_set ?_ GE193.out) | exact HB.out))
          rintro e w62 ⟨rfl, hi, hb, hk⟩
          refine ⟨_, rfl, ?_⟩
          have n0_ := Aside0.mk (KeepBut.blk hk (g' := gb184) (o := .cells #[.int .i64 0, .int .i64 0] 62 (0, 0)) (by refine sqt ?_; exact BK184.out) NB184_0.out (by simp))
          have n1_ := Aside0.mk (KeepBut.blk hk (g' := gb185) (o := .cells #[.int .i64 0, .int .i64 0] 62 (0, 0)) (by refine sqt ?_; exact BK185.out) NB185_0.out (by simp))
          have n2_ := Aside0.mk (KeepBut.blk hk (g' := gb189) (o := .cells #[.int .i64 t186, .int .i64 t187] 62 (0, 0)) (by refine sqt ?_; exact BK189.out) NB189_0.out (by simp))
          have n3_ := Aside0.mk (KeepBut.blk hk (g' := gb193) (o := .cells #[.int .i64 t190, .int .i64 t191] 62 (0, 0)) (by refine sqt ?_; exact BK193.out) NB193_0.out (by simp))
          have n4_ := Aside0.mk (KeepBut.trans (by repeat (first | (with_reducible first | exact HK.out | apply KeepBut.set_ | apply keep_drewN | apply keep_drew | apply keep_alloc | refine keep_far ?_ GW184.out _ | refine keep_far ?_ GW185.out _ | refine keep_far ?_ GW189.out _ | refine keep_far ?_ GW193.out _) | exact HK.out)) hk (.inl rfl))
          have n5_ := Aside0.mk (hb)
          have n6_ := Aside0.mk (hi)
          clear BK184
          clear BK185
          clear BK189
          clear BK193
          clear HK
          clear HB
          clear HI0
          have BK184 := n0_
          have BK185 := n1_
          have BK189 := n2_
          have BK193 := n3_
          have HK := n4_
          have HB := n5_
          have HI0 := n6_
          clear n0_ n1_ n2_ n3_ n4_ n5_ n6_
          (try clear hb)
          (try clear hb2)
          (try clear hk)
          (try clear hi)
          refine hK.out _ _ sqz (fun hHeld => ?_)
          clear hK K
          refine sqnm ?_
          refine sqp HT_ 5 34 ?_
          refine sqo HT_ 7 36 (fun K hK => ?_)
          refine sqG Try.func100 #[.int .i64 (wrap64 (t187 + t200)), .int .i64 t199] ?_
          with_reducible refine (spec_l1Mod.calls (wrap64 (t187 + t200)) t199 t202 _ A44.out).mono ?_
          rintro e w' ⟨rfl, ⟨nd, rfl⟩⟩
          refine ⟨_, rfl, ?_⟩
          refine hK.out _ _ sqz (fun hHeld => ?_)
          clear hK K
          refine sqnm ?_
          refine sqp HT_ 8 37 ?_
          refine one_ (i := 9) (N := none) #[true, true, true, true, true, true, true, true, true, true] rfl rfl (one_of HT_.out (by kernel_rfl)) (by decide) (fun K hK => ?_)
          have hs63 : w62.cell? ⟨gb193, 0, none⟩ = some (.int .i64 t190) := (blk_cell BK193.out 0).trans rfl
          have hfs63 := blk_frozen BK193.out 0
          have hns63_0 := NB184_193.out
          have hns63_1 := NB185_193.out
          have hns63_2 := NB189_193.out
          have hms63_0 := NB193_184.out
          have hms63_1 := NB193_185.out
          have hms63_2 := NB193_189.out
          have hs64 : w62.cell? ⟨gb193, 1, none⟩ = some (.int .i64 t191) := (blk_cell BK193.out 1).trans rfl
          have hfs64 := blk_frozen BK193.out 1
          have hns64_0 := NB184_193.out
          have hns64_1 := NB185_193.out
          have hns64_2 := NB189_193.out
          have hms64_0 := NB193_184.out
          have hms64_1 := NB193_185.out
          have hms64_2 := NB193_189.out
          refine skip_ (w1 := ?_) (by rfl) rfl ?_ ?_
          rotate_left
          · go_simp
            rfl
          refine hK.out _ _ ⟨((cell_far (p := ⟨gb193, _, none⟩) NB189_193.out _).trans (((cell_far (p := ⟨gb193, _, none⟩) NB189_193.out _).trans (hHeld.1)))), ((cell_far (p := ⟨gb193, _, none⟩) NB189_193.out _).trans (((cell_far (p := ⟨gb193, _, none⟩) NB189_193.out _).trans (hHeld.2))))⟩ (fun hHeld => ?_)
          clear hK K
          refine done_ (done_of HT_.out (by kernel_rfl)) ?_
          try go_wp2_with (first | ((with_reducible refine gate_callee (f := 88) rfl ?_); refine sqL (some 39) Try.func88 #[.pointer (some ⟨g, 0, none⟩), .int .i64 2] ?_; (with_reducible refine (spec_l1Rd_pick.calls kj3 g s0_0 t201 2 t203 t204 w0 _ ?side1 ?side2 A45.out).mono ?_); (case side1 => repeat (first | (with_reducible first | exact HI0.out | apply IsS98.alloc | apply IsS98.drewN | apply IsS98.drew | apply IsS98.set_1 | refine IsS98.far ?_ NB0_184.out _ | refine IsS98.far ?_ NB0_185.out _ | refine IsS98.far ?_ NB0_189.out _ | refine IsS98.far ?_ NB0_193.out _) | exact HI0.out)); (case side2 => repeat (first | (with_reducible first | exact HB.out | apply below_alloc | apply pw_below_drewN | apply below_drew1 | refine below_set ?_ (IsS98.ge HI0.out) | refine below_set ?_ GE184.out | refine below_set ?_ GE185.out | refine below_set ?_ GE189.out | refine below_set ?_ GE193.out) | exact HB.out)); rintro e w65 ⟨rfl, hi, hb, hk⟩; refine ⟨_, rfl, ?_⟩; have n0_ := Aside0.mk (KeepBut.blk hk (g' := gb184) (o := .cells #[.int .i64 0, .int .i64 0] 62 (0, 0)) (by refine sqt ?_; refine blk_far ?_ NB184_193.out _; refine sqt ?_; refine blk_far ?_ NB184_193.out _; refine sqt ?_; exact BK184.out) NB184_0.out (by simp)); have n1_ := Aside0.mk (KeepBut.blk hk (g' := gb185) (o := .cells #[.int .i64 0, .int .i64 0] 62 (0, 0)) (by refine sqt ?_; refine blk_far ?_ NB185_193.out _; refine sqt ?_; refine blk_far ?_ NB185_193.out _; refine sqt ?_; exact BK185.out) NB185_0.out (by simp)); have n2_ := Aside0.mk (KeepBut.blk hk (g' := gb189) (o := .cells #[.int .i64 t186, .int .i64 t187] 62 (0, 0)) (by refine sqt ?_; refine blk_far ?_ NB189_193.out _; refine sqt ?_; refine blk_far ?_ NB189_193.out _; refine sqt ?_; exact BK189.out) NB189_0.out (by simp)); have n3_ := Aside0.mk (KeepBut.blk hk (g' := gb193) (o := .cells #[.int .i64 t199, .int .i64 t202] 62 (0, 0)) (by refine sqt ?_; refine blk_put (cs := #[.int .i64 t199, .int .i64 t191]) ?_ 1 _ rfl; refine sqt ?_; refine blk_put (cs := #[.int .i64 t190, .int .i64 t191]) ?_ 0 _ rfl; refine sqt ?_; exact BK193.out) NB193_0.out (by simp)); have n4_ := Aside0.mk (KeepBut.trans (by repeat (first | (with_reducible first | exact HK.out | apply KeepBut.set_ | apply keep_drewN | apply keep_drew | apply keep_alloc | refine keep_far ?_ GW184.out _ | refine keep_far ?_ GW185.out _ | refine keep_far ?_ GW189.out _ | refine keep_far ?_ GW193.out _) | exact HK.out)) hk (.inl rfl)); have n5_ := Aside0.mk (hb); have n6_ := Aside0.mk (hi); clear BK184; clear BK185; clear BK189; clear BK193; clear HK; clear HB; clear HI0; have BK184 := n0_; have BK185 := n1_; have BK189 := n2_; have BK193 := n3_; have HK := n4_; have HB := n5_; have HI0 := n6_; clear n0_ n1_ n2_ n3_ n4_ n5_ n6_; (try clear hb); (try clear hb2); (try clear hk); (try clear hi)))
          replace BK184 := Aside0.mk (blk_drew BK184.out)
          replace BK185 := Aside0.mk (blk_drew BK185.out)
          replace BK189 := Aside0.mk (blk_drew BK189.out)
          replace BK193 := Aside0.mk (blk_drew BK193.out)
          replace HI0 := Aside0.mk (IsS98.drew HI0.out)
          replace HK := Aside0.mk (keep_drew HK.out)
          replace HB := Aside0.mk (below_drew1 HB.out)
          refine start_ (n := 4) (S := fun w' => w'.cell? ⟨gb189, 0, none⟩ = some (.int .i64 t186) ∧ w'.cell? ⟨gb189, 1, none⟩ = some (.int .i64 t187) ∧ w'.cell? ⟨gb193, 0, none⟩ = some (.int .i64 t199) ∧ w'.cell? ⟨gb193, 1, none⟩ = some (.int .i64 t202)) (ds := []) #[false, false, false, false] (by kernel_rfl) rfl rfl ⟨(blk_cell BK189.out 0).trans rfl, (blk_cell BK189.out 1).trans rfl, (blk_cell BK193.out 0).trans rfl, (blk_cell BK193.out 1).trans rfl⟩ (fun hHeld => ?_)
          generalize w65.drew = w66 at BK184 BK185 BK189 BK193 HI0 HK HB hHeld ⊢
          refine take_ (i := 0) (N := some 43) (v := ?_) (a' := ?_) #[true, false, false, false] rfl rfl (by kernel_rfl) (fun _ _ _ h => h) (Or.inl ⟨by rfl, ?_⟩) hHeld ?_ ?_
          rotate_left
          · rintro w' ⟨s0, s1, s2, s3⟩
            go_simp
            with_reducible rfl
          rotate_left
          · simp only [Act.put, List.setIfInBounds_toArray, List.set_cons_zero, List.set_cons_succ, i64_w, i32_w]
            rfl
          refine take_ (i := 1) (N := some 44) (v := ?_) (a' := ?_) #[true, true, false, false] rfl rfl (by kernel_rfl) (fun _ _ _ h => h) (Or.inl ⟨by rfl, ?_⟩) hHeld ?_ ?_
          rotate_left
          · rintro w' ⟨s0, s1, s2, s3⟩
            go_simp
            with_reducible rfl
          rotate_left
          · simp only [Act.put, List.setIfInBounds_toArray, List.set_cons_zero, List.set_cons_succ, i64_w, i32_w]
            rfl
          refine one_ (i := 2) (N := none) #[true, true, true, false] rfl rfl (by kernel_rfl) (by decide) (fun K hK => ?_)
          have hs67 : w66.cell? ⟨gb184, 0, none⟩ = some (.int .i64 0) := (blk_cell BK184.out 0).trans rfl
          have hfs67 := blk_frozen BK184.out 0
          have hns67_1 := NB185_184.out
          have hns67_2 := NB189_184.out
          have hns67_3 := NB193_184.out
          have hms67_1 := NB184_185.out
          have hms67_2 := NB184_189.out
          have hms67_3 := NB184_193.out
          have hs68 : w66.cell? ⟨gb184, 1, none⟩ = some (.int .i64 0) := (blk_cell BK184.out 1).trans rfl
          have hfs68 := blk_frozen BK184.out 1
          have hns68_1 := NB185_184.out
          have hns68_2 := NB189_184.out
          have hns68_3 := NB193_184.out
          have hms68_1 := NB184_185.out
          have hms68_2 := NB184_189.out
          have hms68_3 := NB184_193.out
          refine skip_ (w1 := ?_) (by rfl) rfl ?_ ?_
          rotate_left
          · go_simp
            rfl
          refine hK.out _ _ ⟨((cell_far (p := ⟨gb184, _, none⟩) NB189_184.out _).trans (((cell_far (p := ⟨gb184, _, none⟩) NB189_184.out _).trans (hHeld.1)))), ((cell_far (p := ⟨gb184, _, none⟩) NB189_184.out _).trans (((cell_far (p := ⟨gb184, _, none⟩) NB189_184.out _).trans (hHeld.2.1)))), ((cell_far (p := ⟨gb184, _, none⟩) NB193_184.out _).trans (((cell_far (p := ⟨gb184, _, none⟩) NB193_184.out _).trans (hHeld.2.2.1)))), ((cell_far (p := ⟨gb184, _, none⟩) NB193_184.out _).trans (((cell_far (p := ⟨gb184, _, none⟩) NB193_184.out _).trans (hHeld.2.2.2))))⟩ (fun hHeld => ?_)
          clear hK K
          refine one_ (i := 3) (N := none) #[true, true, true, true] rfl rfl (by kernel_rfl) (by decide) (fun K hK => ?_)
          have hs69 : w66.cell? ⟨gb185, 0, none⟩ = some (.int .i64 0) := (blk_cell BK185.out 0).trans rfl
          have hfs69 := blk_frozen BK185.out 0
          have hns69_0 := NB184_185.out
          have hns69_2 := NB189_185.out
          have hns69_3 := NB193_185.out
          have hms69_0 := NB185_184.out
          have hms69_2 := NB185_189.out
          have hms69_3 := NB185_193.out
          have hs70 : w66.cell? ⟨gb185, 1, none⟩ = some (.int .i64 0) := (blk_cell BK185.out 1).trans rfl
          have hfs70 := blk_frozen BK185.out 1
          have hns70_0 := NB184_185.out
          have hns70_2 := NB189_185.out
          have hns70_3 := NB193_185.out
          have hms70_0 := NB185_184.out
          have hms70_2 := NB185_189.out
          have hms70_3 := NB185_193.out
          refine skip_ (w1 := ?_) (by rfl) rfl ?_ ?_
          rotate_left
          · go_simp
            rfl
          refine hK.out _ _ ⟨((cell_far (p := ⟨gb185, _, none⟩) NB189_185.out _).trans (((cell_far (p := ⟨gb185, _, none⟩) NB189_185.out _).trans (hHeld.1)))), ((cell_far (p := ⟨gb185, _, none⟩) NB189_185.out _).trans (((cell_far (p := ⟨gb185, _, none⟩) NB189_185.out _).trans (hHeld.2.1)))), ((cell_far (p := ⟨gb185, _, none⟩) NB193_185.out _).trans (((cell_far (p := ⟨gb185, _, none⟩) NB193_185.out _).trans (hHeld.2.2.1)))), ((cell_far (p := ⟨gb185, _, none⟩) NB193_185.out _).trans (((cell_far (p := ⟨gb185, _, none⟩) NB193_185.out _).trans (hHeld.2.2.2))))⟩ (fun hHeld => ?_)
          clear hK K
          refine done_ (by kernel_rfl) ?_
          try go_wp2
          refine bodyPost_ret (results_cc rfl _ _ gb184 gb185 62 62 #[.int .i64 t186, .int .i64 t187] #[.int .i64 t199, .int .i64 t202] (0, 0) (0, 0) _ _ rfl (by refine sqt ?_; refine blk_far ?_ NB184_185.out _; refine sqt ?_; refine blk_far ?_ NB184_185.out _; refine sqt ?_; refine blk_put (cs := #[.int .i64 t186, .int .i64 0]) ?_ 1 _ rfl; refine sqt ?_; refine blk_put (cs := #[.int .i64 0, .int .i64 0]) ?_ 0 _ rfl; refine sqt ?_; exact BK184.out) Try.underlying62 rfl (by kernel_rfl) rfl (by refine sqt ?_; refine blk_put (cs := #[.int .i64 t199, .int .i64 0]) ?_ 1 _ rfl; refine sqt ?_; refine blk_put (cs := #[.int .i64 0, .int .i64 0]) ?_ 0 _ rfl; refine sqt ?_; refine blk_far ?_ NB185_184.out _; refine sqt ?_; refine blk_far ?_ NB185_184.out _; refine sqt ?_; exact BK185.out) Try.underlying62 rfl (by kernel_rfl)) rfl ?_
          exact ⟨by first | rfl | (simp [errW_none, errW_some] <;> rfl) | (simp [*, errW_none, errW_some] <;> rfl), by repeat (first | (with_reducible first | exact HI0.out | apply IsS98.alloc | apply IsS98.drewN | apply IsS98.drew | apply IsS98.set_1 | refine IsS98.far ?_ NB0_184.out _ | refine IsS98.far ?_ NB0_185.out _ | refine IsS98.far ?_ NB0_189.out _ | refine IsS98.far ?_ NB0_193.out _) | exact HI0.out), by repeat (first | (with_reducible first | exact HB.out | apply below_alloc | apply pw_below_drewN | apply below_drew1 | refine below_set ?_ (IsS98.ge HI0.out) | refine below_set ?_ GE184.out | refine below_set ?_ GE185.out | refine below_set ?_ GE189.out | refine below_set ?_ GE193.out) | exact HB.out), by repeat (first | (with_reducible first | exact HK.out | apply KeepBut.set_ | apply keep_drewN | apply keep_drew | apply keep_alloc | refine keep_far ?_ GW184.out _ | refine keep_far ?_ GW185.out _ | refine keep_far ?_ GW189.out _ | refine keep_far ?_ GW193.out _) | exact HK.out)⟩
      · replace c40 := Bool.eq_false_iff.mpr c40
        subst c40
        have H1 : ((spec_l1Rd_pick.f kj3 s0_0 x1001_3 2).bind fun bt205 => (if bt205.1 = 0 then (some (t190, t191, t186, t187, bt205.2)) else (some (t186, t187, t190, t191, bt205.2)))) = some (r1, r2, r3, r4, r5) := by rw [if_neg (show ¬ (false = true) by decide)] at H; exact H
        clear H
        have H := H1
        clear H1
        replace H := Option.bind_eq_some_iff.mp H
        obtain ⟨⟨t205, t206⟩, A710, H⟩ := H
        replace H : (if t205 = 0 then (some (t190, t191, t186, t187, t206)) else (some (t186, t187, t190, t191, t206))) = some (r1, r2, r3, r4, r5) := H
        have A71 := Aside0.mk A710
        clear A710
        by_cases c72 : t205 = 0
        · rw [if_pos c72] at H
          have c72b0 : (t205 == 0) = true := beq_iff_eq.mpr c72
          have c72b1 : (t205 != 0) = false := bne_eq_false_iff_eq.mpr c72
          clear c72
          simp only [Option.some.injEq, Prod.mk.injEq] at H
          obtain ⟨rfl, rfl, rfl, rfl, rfl⟩ := H
          try go_wp2_with (first | ((with_reducible refine gate_callee (f := 88) rfl ?_); refine sqL (some 39) Try.func88 #[.pointer (some ⟨g, 0, none⟩), .int .i64 2] ?_; (with_reducible refine (spec_l1Rd_pick.calls kj3 g s0_0 x1001_3 2 t205 t206 w0 _ ?side1 ?side2 A71.out).mono ?_); (case side1 => repeat (first | (with_reducible first | exact HI0.out | apply IsS98.alloc | apply IsS98.drewN | apply IsS98.drew | apply IsS98.set_1 | refine IsS98.far ?_ NB0_184.out _ | refine IsS98.far ?_ NB0_185.out _ | refine IsS98.far ?_ NB0_189.out _ | refine IsS98.far ?_ NB0_193.out _) | exact HI0.out)); (case side2 => repeat (first | (with_reducible first | exact HB.out | apply below_alloc | apply pw_below_drewN | apply below_drew1 | refine below_set ?_ (IsS98.ge HI0.out) | refine below_set ?_ GE184.out | refine below_set ?_ GE185.out | refine below_set ?_ GE189.out | refine below_set ?_ GE193.out) | exact HB.out)); rintro e w73 ⟨rfl, hi, hb, hk⟩; refine ⟨_, rfl, ?_⟩; have n0_ := Aside0.mk (KeepBut.blk hk (g' := gb184) (o := .cells #[.int .i64 0, .int .i64 0] 62 (0, 0)) (by refine sqt ?_; exact BK184.out) NB184_0.out (by simp)); have n1_ := Aside0.mk (KeepBut.blk hk (g' := gb185) (o := .cells #[.int .i64 0, .int .i64 0] 62 (0, 0)) (by refine sqt ?_; exact BK185.out) NB185_0.out (by simp)); have n2_ := Aside0.mk (KeepBut.blk hk (g' := gb189) (o := .cells #[.int .i64 t186, .int .i64 t187] 62 (0, 0)) (by refine sqt ?_; exact BK189.out) NB189_0.out (by simp)); have n3_ := Aside0.mk (KeepBut.blk hk (g' := gb193) (o := .cells #[.int .i64 t190, .int .i64 t191] 62 (0, 0)) (by refine sqt ?_; exact BK193.out) NB193_0.out (by simp)); have n4_ := Aside0.mk (KeepBut.trans (by repeat (first | (with_reducible first | exact HK.out | apply KeepBut.set_ | apply keep_drewN | apply keep_drew | apply keep_alloc | refine keep_far ?_ GW184.out _ | refine keep_far ?_ GW185.out _ | refine keep_far ?_ GW189.out _ | refine keep_far ?_ GW193.out _) | exact HK.out)) hk (.inl rfl)); have n5_ := Aside0.mk (hb); have n6_ := Aside0.mk (hi); clear BK184; clear BK185; clear BK189; clear BK193; clear HK; clear HB; clear HI0; have BK184 := n0_; have BK185 := n1_; have BK189 := n2_; have BK193 := n3_; have HK := n4_; have HB := n5_; have HI0 := n6_; clear n0_ n1_ n2_ n3_ n4_ n5_ n6_; (try clear hb); (try clear hb2); (try clear hk); (try clear hi)))
          replace BK184 := Aside0.mk (blk_drew BK184.out)
          replace BK185 := Aside0.mk (blk_drew BK185.out)
          replace BK189 := Aside0.mk (blk_drew BK189.out)
          replace BK193 := Aside0.mk (blk_drew BK193.out)
          replace HI0 := Aside0.mk (IsS98.drew HI0.out)
          replace HK := Aside0.mk (keep_drew HK.out)
          replace HB := Aside0.mk (below_drew1 HB.out)
          refine start_ (n := 4) (S := fun w' => w'.cell? ⟨gb193, 0, none⟩ = some (.int .i64 t190) ∧ w'.cell? ⟨gb193, 1, none⟩ = some (.int .i64 t191) ∧ w'.cell? ⟨gb189, 0, none⟩ = some (.int .i64 t186) ∧ w'.cell? ⟨gb189, 1, none⟩ = some (.int .i64 t187)) (ds := []) #[false, false, false, false] (by kernel_rfl) rfl rfl ⟨(blk_cell BK193.out 0).trans rfl, (blk_cell BK193.out 1).trans rfl, (blk_cell BK189.out 0).trans rfl, (blk_cell BK189.out 1).trans rfl⟩ (fun hHeld => ?_)
          generalize w73.drew = w74 at BK184 BK185 BK189 BK193 HI0 HK HB hHeld ⊢
          refine take_ (i := 0) (N := some 41) (v := ?_) (a' := ?_) #[true, false, false, false] rfl rfl (by kernel_rfl) (fun _ _ _ h => h) (Or.inl ⟨by rfl, ?_⟩) hHeld ?_ ?_
          rotate_left
          · rintro w' ⟨s0, s1, s2, s3⟩
            go_simp
            with_reducible rfl
          rotate_left
          · simp only [Act.put, List.setIfInBounds_toArray, List.set_cons_zero, List.set_cons_succ, i64_w, i32_w]
            rfl
          refine take_ (i := 1) (N := some 42) (v := ?_) (a' := ?_) #[true, true, false, false] rfl rfl (by kernel_rfl) (fun _ _ _ h => h) (Or.inl ⟨by rfl, ?_⟩) hHeld ?_ ?_
          rotate_left
          · rintro w' ⟨s0, s1, s2, s3⟩
            go_simp
            with_reducible rfl
          rotate_left
          · simp only [Act.put, List.setIfInBounds_toArray, List.set_cons_zero, List.set_cons_succ, i64_w, i32_w]
            rfl
          refine one_ (i := 2) (N := none) #[true, true, true, false] rfl rfl (by kernel_rfl) (by decide) (fun K hK => ?_)
          have hs75 : w74.cell? ⟨gb184, 0, none⟩ = some (.int .i64 0) := (blk_cell BK184.out 0).trans rfl
          have hfs75 := blk_frozen BK184.out 0
          have hns75_1 := NB185_184.out
          have hns75_2 := NB189_184.out
          have hns75_3 := NB193_184.out
          have hms75_1 := NB184_185.out
          have hms75_2 := NB184_189.out
          have hms75_3 := NB184_193.out
          have hs76 : w74.cell? ⟨gb184, 1, none⟩ = some (.int .i64 0) := (blk_cell BK184.out 1).trans rfl
          have hfs76 := blk_frozen BK184.out 1
          have hns76_1 := NB185_184.out
          have hns76_2 := NB189_184.out
          have hns76_3 := NB193_184.out
          have hms76_1 := NB184_185.out
          have hms76_2 := NB184_189.out
          have hms76_3 := NB184_193.out
          refine skip_ (w1 := ?_) (by rfl) rfl ?_ ?_
          rotate_left
          · go_simp
            rfl
          refine hK.out _ _ ⟨((cell_far (p := ⟨gb184, _, none⟩) NB193_184.out _).trans (((cell_far (p := ⟨gb184, _, none⟩) NB193_184.out _).trans (hHeld.1)))), ((cell_far (p := ⟨gb184, _, none⟩) NB193_184.out _).trans (((cell_far (p := ⟨gb184, _, none⟩) NB193_184.out _).trans (hHeld.2.1)))), ((cell_far (p := ⟨gb184, _, none⟩) NB189_184.out _).trans (((cell_far (p := ⟨gb184, _, none⟩) NB189_184.out _).trans (hHeld.2.2.1)))), ((cell_far (p := ⟨gb184, _, none⟩) NB189_184.out _).trans (((cell_far (p := ⟨gb184, _, none⟩) NB189_184.out _).trans (hHeld.2.2.2))))⟩ (fun hHeld => ?_)
          clear hK K
          refine one_ (i := 3) (N := none) #[true, true, true, true] rfl rfl (by kernel_rfl) (by decide) (fun K hK => ?_)
          have hs77 : w74.cell? ⟨gb185, 0, none⟩ = some (.int .i64 0) := (blk_cell BK185.out 0).trans rfl
          have hfs77 := blk_frozen BK185.out 0
          have hns77_0 := NB184_185.out
          have hns77_2 := NB189_185.out
          have hns77_3 := NB193_185.out
          have hms77_0 := NB185_184.out
          have hms77_2 := NB185_189.out
          have hms77_3 := NB185_193.out
          have hs78 : w74.cell? ⟨gb185, 1, none⟩ = some (.int .i64 0) := (blk_cell BK185.out 1).trans rfl
          have hfs78 := blk_frozen BK185.out 1
          have hns78_0 := NB184_185.out
          have hns78_2 := NB189_185.out
          have hns78_3 := NB193_185.out
          have hms78_0 := NB185_184.out
          have hms78_2 := NB185_189.out
          have hms78_3 := NB185_193.out
          refine skip_ (w1 := ?_) (by rfl) rfl ?_ ?_
          rotate_left
          · go_simp
            rfl
          refine hK.out _ _ ⟨((cell_far (p := ⟨gb185, _, none⟩) NB193_185.out _).trans (((cell_far (p := ⟨gb185, _, none⟩) NB193_185.out _).trans (hHeld.1)))), ((cell_far (p := ⟨gb185, _, none⟩) NB193_185.out _).trans (((cell_far (p := ⟨gb185, _, none⟩) NB193_185.out _).trans (hHeld.2.1)))), ((cell_far (p := ⟨gb185, _, none⟩) NB189_185.out _).trans (((cell_far (p := ⟨gb185, _, none⟩) NB189_185.out _).trans (hHeld.2.2.1)))), ((cell_far (p := ⟨gb185, _, none⟩) NB189_185.out _).trans (((cell_far (p := ⟨gb185, _, none⟩) NB189_185.out _).trans (hHeld.2.2.2))))⟩ (fun hHeld => ?_)
          clear hK K
          refine done_ (by kernel_rfl) ?_
          try go_wp2
          refine bodyPost_ret (results_cc rfl _ _ gb184 gb185 62 62 #[.int .i64 t190, .int .i64 t191] #[.int .i64 t186, .int .i64 t187] (0, 0) (0, 0) _ _ rfl (by refine sqt ?_; refine blk_far ?_ NB184_185.out _; refine sqt ?_; refine blk_far ?_ NB184_185.out _; refine sqt ?_; refine blk_put (cs := #[.int .i64 t190, .int .i64 0]) ?_ 1 _ rfl; refine sqt ?_; refine blk_put (cs := #[.int .i64 0, .int .i64 0]) ?_ 0 _ rfl; refine sqt ?_; exact BK184.out) Try.underlying62 rfl (by kernel_rfl) rfl (by refine sqt ?_; refine blk_put (cs := #[.int .i64 t186, .int .i64 0]) ?_ 1 _ rfl; refine sqt ?_; refine blk_put (cs := #[.int .i64 0, .int .i64 0]) ?_ 0 _ rfl; refine sqt ?_; refine blk_far ?_ NB185_184.out _; refine sqt ?_; refine blk_far ?_ NB185_184.out _; refine sqt ?_; exact BK185.out) Try.underlying62 rfl (by kernel_rfl)) rfl ?_
          exact ⟨by first | rfl | (simp [errW_none, errW_some] <;> rfl) | (simp [*, errW_none, errW_some] <;> rfl), by repeat (first | (with_reducible first | exact HI0.out | apply IsS98.alloc | apply IsS98.drewN | apply IsS98.drew | apply IsS98.set_1 | refine IsS98.far ?_ NB0_184.out _ | refine IsS98.far ?_ NB0_185.out _ | refine IsS98.far ?_ NB0_189.out _ | refine IsS98.far ?_ NB0_193.out _) | exact HI0.out), by repeat (first | (with_reducible first | exact HB.out | apply below_alloc | apply pw_below_drewN | apply below_drew1 | refine below_set ?_ (IsS98.ge HI0.out) | refine below_set ?_ GE184.out | refine below_set ?_ GE185.out | refine below_set ?_ GE189.out | refine below_set ?_ GE193.out) | exact HB.out), by repeat (first | (with_reducible first | exact HK.out | apply KeepBut.set_ | apply keep_drewN | apply keep_drew | apply keep_alloc | refine keep_far ?_ GW184.out _ | refine keep_far ?_ GW185.out _ | refine keep_far ?_ GW189.out _ | refine keep_far ?_ GW193.out _) | exact HK.out)⟩
        · rw [if_neg c72] at H
          have c72b0 : (t205 == 0) = false := beq_eq_false_iff_ne.mpr c72
          have c72b1 : (t205 != 0) = true := bne_iff_ne.mpr c72
          simp only [Option.some.injEq, Prod.mk.injEq] at H
          obtain ⟨rfl, rfl, rfl, rfl, rfl⟩ := H
          try go_wp2_with (first | ((with_reducible refine gate_callee (f := 88) rfl ?_); refine sqL (some 39) Try.func88 #[.pointer (some ⟨g, 0, none⟩), .int .i64 2] ?_; (with_reducible refine (spec_l1Rd_pick.calls kj3 g s0_0 x1001_3 2 t205 t206 w0 _ ?side1 ?side2 A71.out).mono ?_); (case side1 => repeat (first | (with_reducible first | exact HI0.out | apply IsS98.alloc | apply IsS98.drewN | apply IsS98.drew | apply IsS98.set_1 | refine IsS98.far ?_ NB0_184.out _ | refine IsS98.far ?_ NB0_185.out _ | refine IsS98.far ?_ NB0_189.out _ | refine IsS98.far ?_ NB0_193.out _) | exact HI0.out)); (case side2 => repeat (first | (with_reducible first | exact HB.out | apply below_alloc | apply pw_below_drewN | apply below_drew1 | refine below_set ?_ (IsS98.ge HI0.out) | refine below_set ?_ GE184.out | refine below_set ?_ GE185.out | refine below_set ?_ GE189.out | refine below_set ?_ GE193.out) | exact HB.out)); rintro e w79 ⟨rfl, hi, hb, hk⟩; refine ⟨_, rfl, ?_⟩; have n0_ := Aside0.mk (KeepBut.blk hk (g' := gb184) (o := .cells #[.int .i64 0, .int .i64 0] 62 (0, 0)) (by refine sqt ?_; exact BK184.out) NB184_0.out (by simp)); have n1_ := Aside0.mk (KeepBut.blk hk (g' := gb185) (o := .cells #[.int .i64 0, .int .i64 0] 62 (0, 0)) (by refine sqt ?_; exact BK185.out) NB185_0.out (by simp)); have n2_ := Aside0.mk (KeepBut.blk hk (g' := gb189) (o := .cells #[.int .i64 t186, .int .i64 t187] 62 (0, 0)) (by refine sqt ?_; exact BK189.out) NB189_0.out (by simp)); have n3_ := Aside0.mk (KeepBut.blk hk (g' := gb193) (o := .cells #[.int .i64 t190, .int .i64 t191] 62 (0, 0)) (by refine sqt ?_; exact BK193.out) NB193_0.out (by simp)); have n4_ := Aside0.mk (KeepBut.trans (by repeat (first | (with_reducible first | exact HK.out | apply KeepBut.set_ | apply keep_drewN | apply keep_drew | apply keep_alloc | refine keep_far ?_ GW184.out _ | refine keep_far ?_ GW185.out _ | refine keep_far ?_ GW189.out _ | refine keep_far ?_ GW193.out _) | exact HK.out)) hk (.inl rfl)); have n5_ := Aside0.mk (hb); have n6_ := Aside0.mk (hi); clear BK184; clear BK185; clear BK189; clear BK193; clear HK; clear HB; clear HI0; have BK184 := n0_; have BK185 := n1_; have BK189 := n2_; have BK193 := n3_; have HK := n4_; have HB := n5_; have HI0 := n6_; clear n0_ n1_ n2_ n3_ n4_ n5_ n6_; (try clear hb); (try clear hb2); (try clear hk); (try clear hi)))
          replace BK184 := Aside0.mk (blk_drew BK184.out)
          replace BK185 := Aside0.mk (blk_drew BK185.out)
          replace BK189 := Aside0.mk (blk_drew BK189.out)
          replace BK193 := Aside0.mk (blk_drew BK193.out)
          replace HI0 := Aside0.mk (IsS98.drew HI0.out)
          replace HK := Aside0.mk (keep_drew HK.out)
          replace HB := Aside0.mk (below_drew1 HB.out)
          refine start_ (n := 4) (S := fun w' => w'.cell? ⟨gb189, 0, none⟩ = some (.int .i64 t186) ∧ w'.cell? ⟨gb189, 1, none⟩ = some (.int .i64 t187) ∧ w'.cell? ⟨gb193, 0, none⟩ = some (.int .i64 t190) ∧ w'.cell? ⟨gb193, 1, none⟩ = some (.int .i64 t191)) (ds := []) #[false, false, false, false] (by kernel_rfl) rfl rfl ⟨(blk_cell BK189.out 0).trans rfl, (blk_cell BK189.out 1).trans rfl, (blk_cell BK193.out 0).trans rfl, (blk_cell BK193.out 1).trans rfl⟩ (fun hHeld => ?_)
          generalize w79.drew = w80 at BK184 BK185 BK189 BK193 HI0 HK HB hHeld ⊢
          refine take_ (i := 0) (N := some 43) (v := ?_) (a' := ?_) #[true, false, false, false] rfl rfl (by kernel_rfl) (fun _ _ _ h => h) (Or.inl ⟨by rfl, ?_⟩) hHeld ?_ ?_
          rotate_left
          · rintro w' ⟨s0, s1, s2, s3⟩
            go_simp
            with_reducible rfl
          rotate_left
          · simp only [Act.put, List.setIfInBounds_toArray, List.set_cons_zero, List.set_cons_succ, i64_w, i32_w]
            rfl
          refine take_ (i := 1) (N := some 44) (v := ?_) (a' := ?_) #[true, true, false, false] rfl rfl (by kernel_rfl) (fun _ _ _ h => h) (Or.inl ⟨by rfl, ?_⟩) hHeld ?_ ?_
          rotate_left
          · rintro w' ⟨s0, s1, s2, s3⟩
            go_simp
            with_reducible rfl
          rotate_left
          · simp only [Act.put, List.setIfInBounds_toArray, List.set_cons_zero, List.set_cons_succ, i64_w, i32_w]
            rfl
          refine one_ (i := 2) (N := none) #[true, true, true, false] rfl rfl (by kernel_rfl) (by decide) (fun K hK => ?_)
          have hs81 : w80.cell? ⟨gb184, 0, none⟩ = some (.int .i64 0) := (blk_cell BK184.out 0).trans rfl
          have hfs81 := blk_frozen BK184.out 0
          have hns81_1 := NB185_184.out
          have hns81_2 := NB189_184.out
          have hns81_3 := NB193_184.out
          have hms81_1 := NB184_185.out
          have hms81_2 := NB184_189.out
          have hms81_3 := NB184_193.out
          have hs82 : w80.cell? ⟨gb184, 1, none⟩ = some (.int .i64 0) := (blk_cell BK184.out 1).trans rfl
          have hfs82 := blk_frozen BK184.out 1
          have hns82_1 := NB185_184.out
          have hns82_2 := NB189_184.out
          have hns82_3 := NB193_184.out
          have hms82_1 := NB184_185.out
          have hms82_2 := NB184_189.out
          have hms82_3 := NB184_193.out
          refine skip_ (w1 := ?_) (by rfl) rfl ?_ ?_
          rotate_left
          · go_simp
            rfl
          refine hK.out _ _ ⟨((cell_far (p := ⟨gb184, _, none⟩) NB189_184.out _).trans (((cell_far (p := ⟨gb184, _, none⟩) NB189_184.out _).trans (hHeld.1)))), ((cell_far (p := ⟨gb184, _, none⟩) NB189_184.out _).trans (((cell_far (p := ⟨gb184, _, none⟩) NB189_184.out _).trans (hHeld.2.1)))), ((cell_far (p := ⟨gb184, _, none⟩) NB193_184.out _).trans (((cell_far (p := ⟨gb184, _, none⟩) NB193_184.out _).trans (hHeld.2.2.1)))), ((cell_far (p := ⟨gb184, _, none⟩) NB193_184.out _).trans (((cell_far (p := ⟨gb184, _, none⟩) NB193_184.out _).trans (hHeld.2.2.2))))⟩ (fun hHeld => ?_)
          clear hK K
          refine one_ (i := 3) (N := none) #[true, true, true, true] rfl rfl (by kernel_rfl) (by decide) (fun K hK => ?_)
          have hs83 : w80.cell? ⟨gb185, 0, none⟩ = some (.int .i64 0) := (blk_cell BK185.out 0).trans rfl
          have hfs83 := blk_frozen BK185.out 0
          have hns83_0 := NB184_185.out
          have hns83_2 := NB189_185.out
          have hns83_3 := NB193_185.out
          have hms83_0 := NB185_184.out
          have hms83_2 := NB185_189.out
          have hms83_3 := NB185_193.out
          have hs84 : w80.cell? ⟨gb185, 1, none⟩ = some (.int .i64 0) := (blk_cell BK185.out 1).trans rfl
          have hfs84 := blk_frozen BK185.out 1
          have hns84_0 := NB184_185.out
          have hns84_2 := NB189_185.out
          have hns84_3 := NB193_185.out
          have hms84_0 := NB185_184.out
          have hms84_2 := NB185_189.out
          have hms84_3 := NB185_193.out
          refine skip_ (w1 := ?_) (by rfl) rfl ?_ ?_
          rotate_left
          · go_simp
            rfl
          refine hK.out _ _ ⟨((cell_far (p := ⟨gb185, _, none⟩) NB189_185.out _).trans (((cell_far (p := ⟨gb185, _, none⟩) NB189_185.out _).trans (hHeld.1)))), ((cell_far (p := ⟨gb185, _, none⟩) NB189_185.out _).trans (((cell_far (p := ⟨gb185, _, none⟩) NB189_185.out _).trans (hHeld.2.1)))), ((cell_far (p := ⟨gb185, _, none⟩) NB193_185.out _).trans (((cell_far (p := ⟨gb185, _, none⟩) NB193_185.out _).trans (hHeld.2.2.1)))), ((cell_far (p := ⟨gb185, _, none⟩) NB193_185.out _).trans (((cell_far (p := ⟨gb185, _, none⟩) NB193_185.out _).trans (hHeld.2.2.2))))⟩ (fun hHeld => ?_)
          clear hK K
          refine done_ (by kernel_rfl) ?_
          try go_wp2
          refine bodyPost_ret (results_cc rfl _ _ gb184 gb185 62 62 #[.int .i64 t186, .int .i64 t187] #[.int .i64 t190, .int .i64 t191] (0, 0) (0, 0) _ _ rfl (by refine sqt ?_; refine blk_far ?_ NB184_185.out _; refine sqt ?_; refine blk_far ?_ NB184_185.out _; refine sqt ?_; refine blk_put (cs := #[.int .i64 t186, .int .i64 0]) ?_ 1 _ rfl; refine sqt ?_; refine blk_put (cs := #[.int .i64 0, .int .i64 0]) ?_ 0 _ rfl; refine sqt ?_; exact BK184.out) Try.underlying62 rfl (by kernel_rfl) rfl (by refine sqt ?_; refine blk_put (cs := #[.int .i64 t190, .int .i64 0]) ?_ 1 _ rfl; refine sqt ?_; refine blk_put (cs := #[.int .i64 0, .int .i64 0]) ?_ 0 _ rfl; refine sqt ?_; refine blk_far ?_ NB185_184.out _; refine sqt ?_; refine blk_far ?_ NB185_184.out _; refine sqt ?_; exact BK185.out) Try.underlying62 rfl (by kernel_rfl)) rfl ?_
          exact ⟨by first | rfl | (simp [errW_none, errW_some] <;> rfl) | (simp [*, errW_none, errW_some] <;> rfl), by repeat (first | (with_reducible first | exact HI0.out | apply IsS98.alloc | apply IsS98.drewN | apply IsS98.drew | apply IsS98.set_1 | refine IsS98.far ?_ NB0_184.out _ | refine IsS98.far ?_ NB0_185.out _ | refine IsS98.far ?_ NB0_189.out _ | refine IsS98.far ?_ NB0_193.out _) | exact HI0.out), by repeat (first | (with_reducible first | exact HB.out | apply below_alloc | apply pw_below_drewN | apply below_drew1 | refine below_set ?_ (IsS98.ge HI0.out) | refine below_set ?_ GE184.out | refine below_set ?_ GE185.out | refine below_set ?_ GE189.out | refine below_set ?_ GE193.out) | exact HB.out), by repeat (first | (with_reducible first | exact HK.out | apply KeepBut.set_ | apply keep_drewN | apply keep_drew | apply keep_alloc | refine keep_far ?_ GW184.out _ | refine keep_far ?_ GW185.out _ | refine keep_far ?_ GW189.out _ | refine keep_far ?_ GW193.out _) | exact HK.out)⟩

end Go.Proofs.Ytmdcgkkkfncieaa.PFnRestLattice
