/- Functions of the program as plain Lean functions, and that calls of them come to what these tell. Conditions: those in each law. -/
import Derived.Test.YtkekcenlleebeaaSq
import Derived.Test.YtkekcenlleebeaaDFnValMake
import Derived.Test.YtkekcenlleebeaaQFnValMakex0
import Derived.Test.YtkekcenlleebeaaQFnValMakex3
import Derived.Test.YtkekcenlleebeaaQFnValMakex4
namespace Go.Proofs.Ytkekcenlleebeaa.PFnValMake
open Go.RowKit Go.Proofs.Ytkekcenlleebeaa.Sq Go.Proofs.YtkekcenlleebeaaW.PrintWords Go.Proofs.YtkekcenlleebeaaW.PrintLast Go.Proofs.YtkekcenlleebeaaW.PrintMore
attribute [local go_sem] max2_int min2_int max_two min_two max_three min_three max_four min_four   -- for this text's walks alone
set_option linter.unusedVariables false
set_option linter.unusedSimpArgs false

/-! ### spec_DrawValMake: function 15 -/
theorem spec_DrawValMake.mono : ∀ a0 k, LeO (spec_DrawValMake.f k a0) (spec_DrawValMake.f (k + 1) a0) := by
  intro a0 k
  unfold spec_DrawValMake.f
  repeat' first
      | (with_reducible exact spec_l8Wild.mono _ _ _)
      | (with_reducible exact spec_l9Wild.mono _ _ _)
      | (with_reducible exact LeO.refl _)
      | (with_reducible exact LeO.none _)
      | (with_reducible refine LeO.ite ?_ ?_)
      | (with_reducible refine LeO.bind ?_ (fun _ => ?_))
      | exact spec_l8Wild.mono _ _ _
      | exact spec_l9Wild.mono _ _ _
      | exact LeO.none _
      | refine LeO.ite ?_ ?_
      | refine LeO.bind ?_ (fun _ => ?_)
set_option maxHeartbeats 8000000 in
set_option maxRecDepth 100000 in
theorem spec_DrawValMake.calls (k : Nat) (A0 : Option Addr) (c0 : Nat) (l0 : List Int) (r1 : Int) (r2 : Int) (r3 : Int) (r4 : Int) (w : World) (hr0 : Kd.C (Kd.int .u8) w A0 l0.length l0) (hc0 : l0.length ≤ c0) (h : spec_DrawValMake.f k l0 = some (r1, r2, r3, r4)) :
    Calls Try.prog 15 #[.slice A0 l0.length c0] w fun e w' => e = .returned (.tuple #[.agg #[.int .i64 r1, .int .i64 r2], .agg #[.int .i64 r3, .int .i64 r4]]) ∧ Below w.heap.size w w' := by
  have hu24 := Try.underlying24
  have hu26 := Try.underlying26
  have HR0 := Aside0.mk hr0
  have HC0 := Aside0.mk hc0
  clear hr0 hc0
  have HB := Aside0.mk (Below.refl w.heap.size w)
  have H : ((spec_l1Open.f l0).bind fun bt214 => ((spec_l8Wild.f k bt214.1 bt214.2).bind fun bt217 => ((spec_l9Wild.f k bt214.1 bt217.2.2).bind fun bt221 => (some (bt217.1, bt217.2.1, bt221.1, bt221.2.1))))) = some (r1, r2, r3, r4) := h
  clear h
  replace H := Option.bind_eq_some_iff.mp H
  obtain ⟨⟨t214, t215⟩, A20, H⟩ := H
  replace H : ((spec_l8Wild.f k t214 t215).bind fun bt217 => ((spec_l9Wild.f k t214 bt217.2.2).bind fun bt221 => (some (bt217.1, bt217.2.1, bt221.1, bt221.2.1)))) = some (r1, r2, r3, r4) := H
  have A2 := Aside0.mk A20
  clear A20
  replace H := Option.bind_eq_some_iff.mp H
  obtain ⟨⟨t217, t218, t219⟩, A30, H⟩ := H
  replace H : ((spec_l9Wild.f k t214 t219).bind fun bt221 => (some (t217, t218, bt221.1, bt221.2.1))) = some (r1, r2, r3, r4) := H
  have A3 := Aside0.mk A30
  clear A30
  replace H := Option.bind_eq_some_iff.mp H
  obtain ⟨⟨t221, t222, t223⟩, A40, H⟩ := H
  replace H : (some (t217, t218, t221, t222)) = some (r1, r2, r3, r4) := H
  have A4 := Aside0.mk A40
  clear A40
  simp only [Option.some.injEq, Prod.mk.injEq] at H
  obtain ⟨rfl, rfl, rfl, rfl⟩ := H
  go_enter Try.func15, Try.ntmps15
  try go_wp2_with (first | ((with_reducible refine gate_dst (N := 2) rfl ?_); refine sqx 2 #[.int .i64 0, .int .i64 0] 24 ?_; intro gb212 hg w5 hbox hb; have BK212 := Aside0.mk (hbox); have GW212 := sqg HB hg; have GE212 := sqg HB hg; replace HB := sqs HB hb; clear hb hbox hg) | ((with_reducible refine gate_dst (N := 3) rfl ?_); refine sqx 3 #[.int .i64 0, .int .i64 0] 26 ?_; intro gb213 hg w6 hbox hb; have BK213 := Aside0.mk (hbox); have GW213 := sqg HB hg; have GE213 := sqg HB hg; have NB212_213 := sqn BK212 hg; have NB213_212 := sqm BK212 hg; replace BK212 := sqb BK212 hb; replace HB := sqs HB hb; clear hb hbox hg) | ((with_reducible refine gate_callee (f := 92) rfl ?_); refine sqL (some 7) Try.func92 #[.slice A0 l0.length c0] ?_; (with_reducible refine (spec_l1Open.calls _ _ l0 t214 t215 w _ ?side1 ?side2 ?side3 A2.out).mono ?_); (case side1 => repeat (first | (with_reducible first | exact HB.out | apply below_alloc | apply pw_below_drewN | apply below_drew1 | refine below_set ?_ GE212.out | refine below_set ?_ GE213.out) | exact HB.out)); (case side2 => exact HR0.out); (case side3 => exact HC0.out); rintro e w7 ⟨g216, rfl, hi, hb, hb2⟩; refine ⟨_, rfl, ?_⟩; have n0_ := Aside0.mk (blk_below (g := gb212) (o := .cells #[.int .i64 0, .int .i64 0] 24 (0, 0)) (by refine sqt ?_; exact BK212.out) hb2); have n1_ := Aside0.mk (blk_below (g := gb213) (o := .cells #[.int .i64 0, .int .i64 0] 26 (0, 0)) (by refine sqt ?_; exact BK213.out) hb2); have n2_ := Aside0.mk (hb); have n3_ := Aside0.mk (hi); have n4_ := Aside0.mk (IsS161.ne_blk hi (blk_below (g := gb212) (o := .cells #[.int .i64 0, .int .i64 0] 24 (0, 0)) (by refine sqt ?_; exact BK212.out) hb2) (by decide)); have n5_ := Aside0.mk (Ne.symm (IsS161.ne_blk hi (blk_below (g := gb212) (o := .cells #[.int .i64 0, .int .i64 0] 24 (0, 0)) (by refine sqt ?_; exact BK212.out) hb2) (by decide))); have n6_ := Aside0.mk (IsS161.ne_blk hi (blk_below (g := gb213) (o := .cells #[.int .i64 0, .int .i64 0] 26 (0, 0)) (by refine sqt ?_; exact BK213.out) hb2) (by decide)); have n7_ := Aside0.mk (Ne.symm (IsS161.ne_blk hi (blk_below (g := gb213) (o := .cells #[.int .i64 0, .int .i64 0] 26 (0, 0)) (by refine sqt ?_; exact BK213.out) hb2) (by decide))); clear BK212; clear BK213; clear HB; have BK212 := n0_; have BK213 := n1_; have HB := n2_; have HI216 := n3_; have NB216_212 := n4_; have NB212_216 := n5_; have NB216_213 := n6_; have NB213_216 := n7_; clear n0_ n1_ n2_ n3_ n4_ n5_ n6_ n7_; (try clear hb); (try clear hb2); (try clear hk); (try clear hi)) | ((with_reducible refine gate_callee (f := 93) rfl ?_); refine sqL (some 9) Try.func93 #[.pointer (some ⟨g216, 0, none⟩)] ?_; (with_reducible refine (spec_l8Wild.calls k g216 t214 t215 t217 t218 t219 w _ ?side1 ?side2 A3.out).mono ?_); (case side1 => repeat (first | (with_reducible first | exact HI216.out | apply IsS161.alloc | apply IsS161.drewN | apply IsS161.drew | apply IsS161.set_1 | refine IsS161.far ?_ NB216_212.out _ | refine IsS161.far ?_ NB216_213.out _) | exact HI216.out)); (case side2 => repeat (first | (with_reducible first | exact HB.out | apply below_alloc | apply pw_below_drewN | apply below_drew1 | refine below_set ?_ (IsS161.ge HI216.out) | refine below_set ?_ GE212.out | refine below_set ?_ GE213.out) | exact HB.out)); rintro e w8 ⟨rfl, hi, hb, hk⟩; refine ⟨_, rfl, ?_⟩; have n0_ := Aside0.mk (KeepBut.blk hk (g' := gb212) (o := .cells #[.int .i64 0, .int .i64 0] 24 (0, 0)) (by refine sqt ?_; exact BK212.out) NB212_216.out (by simp)); have n1_ := Aside0.mk (KeepBut.blk hk (g' := gb213) (o := .cells #[.int .i64 0, .int .i64 0] 26 (0, 0)) (by refine sqt ?_; exact BK213.out) NB213_216.out (by simp)); have n2_ := Aside0.mk (hb); have n3_ := Aside0.mk (hi); clear BK212; clear BK213; clear HB; clear HI216; have BK212 := n0_; have BK213 := n1_; have HB := n2_; have HI216 := n3_; clear n0_ n1_ n2_ n3_; (try clear hb); (try clear hb2); (try clear hk); (try clear hi)) | ((with_reducible refine gate_dst (N := 5) rfl ?_); refine sqx 5 #[.int .i64 0, .int .i64 0] 24 ?_; intro gb220 hg w9 hbox hb; have n0_ := sqb BK212 hb; have n1_ := sqb BK213 hb; have n2_ := Aside0.mk (IsS161.below (by repeat (first | (with_reducible first | exact HI216.out | apply IsS161.alloc | apply IsS161.drewN | apply IsS161.drew | apply IsS161.set_1 | refine IsS161.far ?_ NB216_212.out _ | refine IsS161.far ?_ NB216_213.out _) | exact HI216.out)) hb); have n3_ := Aside0.mk (below_step (by repeat (first | (with_reducible first | exact HB.out | apply below_alloc | apply pw_below_drewN | apply below_drew1 | refine below_set ?_ (IsS161.ge HI216.out) | refine below_set ?_ GE212.out | refine below_set ?_ GE213.out) | exact HB.out)) hb); have n4_ := Aside0.mk (hbox); have n5_ := Aside0.mk ((by rw [hg]; exact (below_size (by repeat (first | (with_reducible first | exact HB.out | apply below_alloc | apply pw_below_drewN | apply below_drew1 | refine below_set ?_ (IsS161.ge HI216.out) | refine below_set ?_ GE212.out | refine below_set ?_ GE213.out) | exact HB.out))) : w.heap.size ≤ gb220)); have n6_ := Aside0.mk ((by rw [hg]; exact (below_size (by repeat (first | (with_reducible first | exact HB.out | apply below_alloc | apply pw_below_drewN | apply below_drew1 | refine below_set ?_ (IsS161.ge HI216.out) | refine below_set ?_ GE212.out | refine below_set ?_ GE213.out) | exact HB.out))) : w.heap.size ≤ gb220)); have n7_ := sqn BK212 hg; have n8_ := sqm BK212 hg; have n9_ := sqn BK213 hg; have n10_ := sqm BK213 hg; have n11_ := Aside0.mk ((by rw [hg]; exact Nat.ne_of_lt (IsS161.lt (show IsS161 w _ g216 t214 t219 from by repeat (first | (with_reducible first | exact HI216.out | apply IsS161.alloc | apply IsS161.drewN | apply IsS161.drew | apply IsS161.set_1 | refine IsS161.far ?_ NB216_212.out _ | refine IsS161.far ?_ NB216_213.out _) | exact HI216.out))) : g216 ≠ gb220)); have n12_ := Aside0.mk ((by rw [hg]; exact Nat.ne_of_gt (IsS161.lt (show IsS161 w _ g216 t214 t219 from by repeat (first | (with_reducible first | exact HI216.out | apply IsS161.alloc | apply IsS161.drewN | apply IsS161.drew | apply IsS161.set_1 | refine IsS161.far ?_ NB216_212.out _ | refine IsS161.far ?_ NB216_213.out _) | exact HI216.out))) : gb220 ≠ g216)); clear BK212; clear BK213; clear HI216; clear HB; have BK212 := n0_; have BK213 := n1_; have HI216 := n2_; have HB := n3_; have BK220 := n4_; have GW220 := n5_; have GE220 := n6_; have NB212_220 := n7_; have NB220_212 := n8_; have NB213_220 := n9_; have NB220_213 := n10_; have NB216_220 := n11_; have NB220_216 := n12_; clear n0_ n1_ n2_ n3_ n4_ n5_ n6_ n7_ n8_ n9_ n10_ n11_ n12_; clear hb hbox hg; have hnb10 := NB220_212.out; have hnc10 := NB212_220.out; have hnb11 := NB220_213.out; have hnc11 := NB213_220.out; have hnb12 := NB220_216.out; have hnc12 := NB216_220.out; obtain ⟨hcz13_0, hcz13_1, hfz13_0, hfz13_1⟩ := sqc2 BK220))
  have n0_ : Aside0 (((w9.setCell ⟨gb220, 0, none⟩ (.int .i64 t217)).setCell ⟨gb220, 1, none⟩ (.int .i64 t218)).heap[gb212]? = some (.cells #[.int .i64 0, .int .i64 0] 24 (0, 0))) := ⟨by refine sqt ?_; refine blk_far ?_ NB212_220.out _; refine sqt ?_; refine blk_far ?_ NB212_220.out _; refine sqt ?_; exact BK212.out⟩
  have n1_ : Aside0 (((w9.setCell ⟨gb220, 0, none⟩ (.int .i64 t217)).setCell ⟨gb220, 1, none⟩ (.int .i64 t218)).heap[gb213]? = some (.cells #[.int .i64 0, .int .i64 0] 26 (0, 0))) := ⟨by refine sqt ?_; refine blk_far ?_ NB213_220.out _; refine sqt ?_; refine blk_far ?_ NB213_220.out _; refine sqt ?_; exact BK213.out⟩
  have n2_ : Aside0 (((w9.setCell ⟨gb220, 0, none⟩ (.int .i64 t217)).setCell ⟨gb220, 1, none⟩ (.int .i64 t218)).heap[gb220]? = some (.cells #[.int .i64 t217, .int .i64 t218] 24 (0, 0))) := ⟨by refine sqt ?_; refine blk_put (cs := #[.int .i64 t217, .int .i64 0]) ?_ 1 _ rfl; refine sqt ?_; refine blk_put (cs := #[.int .i64 0, .int .i64 0]) ?_ 0 _ rfl; refine sqt ?_; exact BK220.out⟩
  have n3_ : Aside0 (IsS161 w ((w9.setCell ⟨gb220, 0, none⟩ (.int .i64 t217)).setCell ⟨gb220, 1, none⟩ (.int .i64 t218)) g216 t214 t219) := ⟨by repeat (first | (with_reducible first | exact HI216.out | apply IsS161.alloc | apply IsS161.drewN | apply IsS161.drew | apply IsS161.set_1 | refine IsS161.far ?_ NB216_212.out _ | refine IsS161.far ?_ NB216_213.out _ | refine IsS161.far ?_ NB216_220.out _) | exact HI216.out)⟩
  have n4_ : Aside0 (Below w.heap.size w ((w9.setCell ⟨gb220, 0, none⟩ (.int .i64 t217)).setCell ⟨gb220, 1, none⟩ (.int .i64 t218))) := ⟨by repeat (first | (with_reducible first | exact HB.out | apply below_alloc | apply pw_below_drewN | apply below_drew1 | refine below_set ?_ (IsS161.ge HI216.out) | refine below_set ?_ GE212.out | refine below_set ?_ GE213.out | refine below_set ?_ GE220.out) | exact HB.out)⟩
  (try clear BK212)
  (try clear BK213)
  (try clear BK220)
  (try clear HI216)
  (try clear HB)
  generalize ((w9.setCell ⟨gb220, 0, none⟩ (.int .i64 t217)).setCell ⟨gb220, 1, none⟩ (.int .i64 t218)) = w14 at n0_ n1_ n2_ n3_ n4_ ⊢
  have BK212 := n0_
  have BK213 := n1_
  have BK220 := n2_
  have HI216 := n3_
  have HB := n4_
  clear n0_ n1_ n2_ n3_ n4_
  replace BK212 := Aside0.mk (blk_drew BK212.out)
  replace BK213 := Aside0.mk (blk_drew BK213.out)
  replace BK220 := Aside0.mk (blk_drew BK220.out)
  replace HI216 := Aside0.mk (IsS161.drew HI216.out)
  replace HB := Aside0.mk (below_drew1 HB.out)
  refine start_ (n := 5) (S := fun w' => w'.cell? ⟨gb220, 0, none⟩ = some (.int .i64 t217) ∧ w'.cell? ⟨gb220, 1, none⟩ = some (.int .i64 t218)) (ds := []) #[false, false, false, false, false] (by kernel_rfl) rfl rfl ⟨(blk_cell BK220.out 0).trans rfl, (blk_cell BK220.out 1).trans rfl⟩ (fun hHeld => ?_)
  generalize w14.drew = w15 at BK212 BK213 BK220 HI216 HB hHeld ⊢
  refine pure_ (i := 1) (N := some 11) (v := ?_) (a' := ?_) #[false, true, false, false, false] rfl rfl (by kernel_rfl) (fun _ _ _ h => h) (Or.inl ⟨by rfl, ?_⟩) ?_ ?_
  rotate_left
  · intro w'
    go_simp
    with_reducible rfl
  rotate_left
  · simp only [Act.put, List.setIfInBounds_toArray, List.set_cons_zero, List.set_cons_succ, i64_w, i32_w]
    rfl
  refine take_ (i := 0) (N := some 10) (v := ?_) (a' := ?_) #[true, true, false, false, false] rfl rfl (by kernel_rfl) (fun _ _ _ h => h) (Or.inl ⟨by rfl, ?_⟩) hHeld ?_ ?_
  rotate_left
  · rintro w' ⟨s0, s1⟩
    go_simp
    with_reducible rfl
  rotate_left
  · simp only [Act.put, List.setIfInBounds_toArray, List.set_cons_zero, List.set_cons_succ, i64_w, i32_w]
    rfl
  refine one_ (i := 2) (N := some 12) #[true, true, true, false, false] rfl rfl (by kernel_rfl) (by decide) (fun K hK => ?_)
  refine sqG Try.func94 #[.pointer (some ⟨g216, 0, none⟩)] ?_
  with_reducible refine (spec_l9Wild.calls k g216 t214 t219 t221 t222 t223 w _ ?side1 ?side2 A4.out).mono ?_
  (case side1 => repeat (first | (with_reducible first | exact HI216.out | apply IsS161.alloc | apply IsS161.drewN | apply IsS161.drew | apply IsS161.set_1 | refine IsS161.far ?_ NB216_212.out _ | refine IsS161.far ?_ NB216_213.out _ | refine IsS161.far ?_ NB216_220.out _) | exact HI216.out))
  (case side2 => repeat (first | (with_reducible first | exact HB.out | apply below_alloc | apply pw_below_drewN | apply below_drew1 | refine below_set ?_ (IsS161.ge HI216.out) | refine below_set ?_ GE212.out | refine below_set ?_ GE213.out | refine below_set ?_ GE220.out) | exact HB.out))
  rintro e w16 ⟨rfl, hi, hb, hk⟩
  refine ⟨_, rfl, ?_⟩
  have n0_ := Aside0.mk (KeepBut.blk hk (g' := gb212) (o := .cells #[.int .i64 0, .int .i64 0] 24 (0, 0)) (by refine sqt ?_; exact BK212.out) NB212_216.out (by simp))
  have n1_ := Aside0.mk (KeepBut.blk hk (g' := gb213) (o := .cells #[.int .i64 0, .int .i64 0] 26 (0, 0)) (by refine sqt ?_; exact BK213.out) NB213_216.out (by simp))
  have n2_ := Aside0.mk (KeepBut.blk hk (g' := gb220) (o := .cells #[.int .i64 t217, .int .i64 t218] 24 (0, 0)) (by refine sqt ?_; exact BK220.out) NB220_216.out (by simp))
  have n3_ := Aside0.mk (hb)
  have n4_ := Aside0.mk (hi)
  clear BK212
  clear BK213
  clear BK220
  clear HB
  clear HI216
  have BK212 := n0_
  have BK213 := n1_
  have BK220 := n2_
  have HB := n3_
  have HI216 := n4_
  clear n0_ n1_ n2_ n3_ n4_
  (try clear hb)
  (try clear hb2)
  (try clear hk)
  (try clear hi)
  refine hK.out _ _ sqz (fun hHeld => ?_)
  clear hK K
  refine sqnm ?_
  refine one_ (i := 3) (N := none) #[true, true, true, true, false] rfl rfl (by kernel_rfl) (by decide) (fun K hK => ?_)
  have hs17 : w16.cell? ⟨gb212, 0, none⟩ = some (.int .i64 0) := (blk_cell BK212.out 0).trans rfl
  have hfs17 := blk_frozen BK212.out 0
  have hns17_1 := NB213_212.out
  have hns17_2 := NB220_212.out
  have hms17_1 := NB212_213.out
  have hms17_2 := NB212_220.out
  have hs18 : w16.cell? ⟨gb212, 1, none⟩ = some (.int .i64 0) := (blk_cell BK212.out 1).trans rfl
  have hfs18 := blk_frozen BK212.out 1
  have hns18_1 := NB213_212.out
  have hns18_2 := NB220_212.out
  have hms18_1 := NB212_213.out
  have hms18_2 := NB212_220.out
  refine skip_ (w1 := ?_) (by rfl) rfl ?_ ?_
  rotate_left
  · go_simp
    rfl
  refine hK.out _ _ ⟨((cell_far (p := ⟨gb212, _, none⟩) NB220_212.out _).trans (((cell_far (p := ⟨gb212, _, none⟩) NB220_212.out _).trans (hHeld.1)))), ((cell_far (p := ⟨gb212, _, none⟩) NB220_212.out _).trans (((cell_far (p := ⟨gb212, _, none⟩) NB220_212.out _).trans (hHeld.2))))⟩ (fun hHeld => ?_)
  clear hK K
  refine one_ (i := 4) (N := none) #[true, true, true, true, true] rfl rfl (by kernel_rfl) (by decide) (fun K hK => ?_)
  have hs19 : w16.cell? ⟨gb213, 0, none⟩ = some (.int .i64 0) := (blk_cell BK213.out 0).trans rfl
  have hfs19 := blk_frozen BK213.out 0
  have hns19_0 := NB212_213.out
  have hns19_2 := NB220_213.out
  have hms19_0 := NB213_212.out
  have hms19_2 := NB213_220.out
  have hs20 : w16.cell? ⟨gb213, 1, none⟩ = some (.int .i64 0) := (blk_cell BK213.out 1).trans rfl
  have hfs20 := blk_frozen BK213.out 1
  have hns20_0 := NB212_213.out
  have hns20_2 := NB220_213.out
  have hms20_0 := NB213_212.out
  have hms20_2 := NB213_220.out
  refine skip_ (w1 := ?_) (by rfl) rfl ?_ ?_
  rotate_left
  · go_simp
    rfl
  refine hK.out _ _ ⟨((cell_far (p := ⟨gb213, _, none⟩) NB220_213.out _).trans (((cell_far (p := ⟨gb213, _, none⟩) NB220_213.out _).trans (hHeld.1)))), ((cell_far (p := ⟨gb213, _, none⟩) NB220_213.out _).trans (((cell_far (p := ⟨gb213, _, none⟩) NB220_213.out _).trans (hHeld.2))))⟩ (fun hHeld => ?_)
  clear hK K
  refine done_ (by kernel_rfl) ?_
  try go_wp2
  refine bodyPost_ret (results_cc rfl _ _ gb212 gb213 24 26 #[.int .i64 t217, .int .i64 t218] #[.int .i64 t221, .int .i64 t222] (0, 0) (0, 0) _ _ rfl (by refine sqt ?_; refine blk_far ?_ NB212_213.out _; refine sqt ?_; refine blk_far ?_ NB212_213.out _; refine sqt ?_; refine blk_put (cs := #[.int .i64 t217, .int .i64 0]) ?_ 1 _ rfl; refine sqt ?_; refine blk_put (cs := #[.int .i64 0, .int .i64 0]) ?_ 0 _ rfl; refine sqt ?_; exact BK212.out) Try.underlying24 rfl (by kernel_rfl) rfl (by refine sqt ?_; refine blk_put (cs := #[.int .i64 t221, .int .i64 0]) ?_ 1 _ rfl; refine sqt ?_; refine blk_put (cs := #[.int .i64 0, .int .i64 0]) ?_ 0 _ rfl; refine sqt ?_; refine blk_far ?_ NB213_212.out _; refine sqt ?_; refine blk_far ?_ NB213_212.out _; refine sqt ?_; exact BK213.out) Try.underlying26 rfl (by kernel_rfl)) rfl ?_
  exact ⟨by first | rfl | (simp [errW_none, errW_some] <;> rfl) | (simp [*, errW_none, errW_some] <;> rfl), by repeat (first | (with_reducible first | exact HB.out | apply below_alloc | apply pw_below_drewN | apply below_drew1 | refine below_set ?_ (IsS161.ge HI216.out) | refine below_set ?_ GE212.out | refine below_set ?_ GE213.out | refine below_set ?_ GE220.out) | exact HB.out)⟩

/-! ### impl_NumOk: function 117 -/
set_option maxHeartbeats 8000000 in
set_option maxRecDepth 100000 in
theorem impl_NumOk.calls (a0 : Int) (r : Bool) (w : World) (h : impl_NumOk.f a0 = some r) :
    Calls Try.prog 117 #[.int .i64 a0] w fun e w' => e = .returned (.bool r) ∧ Drawn0 w w' := by
  have H : (if a0 ≥ (-2147483648) then (some (decide (a0 ≤ 2147483647))) else (some false)) = some r := h
  clear h
  by_cases c2 : a0 ≥ (-2147483648)
  · rw [if_pos c2] at H
    have c2b0 : decide ((-2147483648) ≤ a0) = true := decide_eq_true c2
    clear c2
    obtain rfl := Option.some.inj H
    go_enter Try.func117, Try.ntmps117
    go_wp2
    go_ret
    exact ⟨by first | rfl | (simp; done) | (simp [*]; done), by repeat (first | exact Drawn0.refl _ | apply Drawn0.step)⟩
  · rw [if_neg c2] at H
    have c2b0 : decide ((-2147483648) ≤ a0) = false := decide_eq_false c2
    clear c2
    obtain rfl := Option.some.inj H
    go_enter Try.func117, Try.ntmps117
    go_wp2
    go_ret
    exact ⟨by first | rfl | (simp; done) | (simp [*]; done), by repeat (first | exact Drawn0.refl _ | apply Drawn0.step)⟩

/-! ### impl_rangeNone: function 126 -/
set_option maxHeartbeats 8000000 in
set_option maxRecDepth 100000 in
theorem impl_rangeNone.calls  (r1 : Int) (r2 : Int) (w : World) (h : impl_rangeNone.f  = some (r1, r2)) :
    Calls Try.prog 126 #[] w fun e w' => e = .returned (.agg #[.int .i64 r1, .int .i64 r2]) ∧ Below w.heap.size w w' := by
  have hu24 := Try.underlying24
  have HB := Aside0.mk (Below.refl w.heap.size w)
  have H : (some (1, 0)) = some (r1, r2) := h
  clear h
  simp only [Option.some.injEq, Prod.mk.injEq] at H
  obtain ⟨rfl, rfl⟩ := H
  go_enter Try.func126, Try.ntmps126
  go_wp2_with (first | ((with_reducible refine gate_dst (N := 0) rfl ?_); refine sqx 0 #[.int .i64 0, .int .i64 0] 24 ?_; intro gb224 hg w1 hbox hb; have BK224 := Aside0.mk (hbox); have GW224 := sqg HB hg; have GE224 := sqg HB hg; replace HB := sqs HB hb; clear hb hbox hg; obtain ⟨hcz2_0, hcz2_1, hfz2_0, hfz2_1⟩ := sqc2 BK224))
  refine bodyPost_ret (results_cell_row rfl _ _ gb224 24 #[.int .i64 1, .int .i64 0] (0, 0) _ rfl (by refine sqt ?_; refine blk_put (cs := #[.int .i64 1, .int .i64 0]) ?_ 1 _ rfl; refine sqt ?_; refine blk_put (cs := #[.int .i64 0, .int .i64 0]) ?_ 0 _ rfl; refine sqt ?_; exact BK224.out) Try.underlying24 rfl (by kernel_rfl)) rfl ?_
  exact sqe HB

end Go.Proofs.Ytkekcenlleebeaa.PFnValMake
