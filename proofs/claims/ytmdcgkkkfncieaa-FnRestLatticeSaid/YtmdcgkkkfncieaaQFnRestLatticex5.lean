/- Functions of the program as plain Lean functions, and that calls of them come to what these tell. Conditions: those in each law. -/
import Derived.Test.YtmdcgkkkfncieaaSq
import Derived.Test.YtmdcgkkkfncieaaDFnRestLattice
import Derived.Test.YtmdcgkkkfncieaaQFnRestLatticex0
import Derived.Test.YtmdcgkkkfncieaaQFnRestLatticex2
import Derived.Test.YtmdcgkkkfncieaaQFnRestLatticex4
namespace Go.Proofs.Ytmdcgkkkfncieaa.PFnRestLattice
open Go.RowKit Go.Proofs.Ytmdcgkkkfncieaa.Sq Go.Proofs.YtmdcgkkkfncieaaW.PrintWords Go.Proofs.YtmdcgkkkfncieaaW.PrintLast Go.Proofs.YtmdcgkkkfncieaaW.PrintMore
attribute [local go_sem] max2_int min2_int max_two min_two max_three min_three max_four min_four   -- for this text's walks alone
set_option linter.unusedVariables false
set_option linter.unusedSimpArgs false

/-! ### spec_DrawRestMeet: function 54 -/
theorem spec_DrawRestMeet.mono : ∀ a0 k, LeO (spec_DrawRestMeet.f k a0) (spec_DrawRestMeet.f (k + 1) a0) := by
  intro a0 k
  unfold spec_DrawRestMeet.f
  repeat' first
      | (with_reducible exact spec_l9Two.mono _ _ _)
      | (with_reducible exact LeO.refl _)
      | (with_reducible exact LeO.none _)
      | (with_reducible refine LeO.ite ?_ ?_)
      | (with_reducible refine LeO.bind ?_ (fun _ => ?_))
      | exact spec_l9Two.mono _ _ _
      | exact LeO.none _
      | refine LeO.ite ?_ ?_
      | refine LeO.bind ?_ (fun _ => ?_)
set_option maxHeartbeats 8000000 in
set_option maxRecDepth 100000 in
theorem spec_DrawRestMeet.calls (k : Nat) (A0 : Option Addr) (c0 : Nat) (l0 : List Int) (r1 : Int) (r2 : Int) (r3 : Int) (r4 : Int) (w : World) (hr0 : Kd.C (Kd.int .u8) w A0 l0.length l0) (hc0 : l0.length ≤ c0) (h : spec_DrawRestMeet.f k l0 = some (r1, r2, r3, r4)) :
    Calls Try.prog 54 #[.slice A0 l0.length c0] w fun e w' => e = .returned (.tuple #[.agg #[.int .i64 r1, .int .i64 r2], .agg #[.int .i64 r3, .int .i64 r4]]) ∧ Below w.heap.size w w' := by
  have hu62 := Try.underlying62
  have HR0 := Aside0.mk hr0
  have HC0 := Aside0.mk hc0
  clear hr0 hc0
  have HB := Aside0.mk (Below.refl w.heap.size w)
  have H : ((spec_l1Open.f l0).bind fun bt209 => ((spec_l9Two.f k bt209.1 bt209.2).bind fun bt212 => (some (bt212.1, bt212.2.1, bt212.2.2.1, bt212.2.2.2.1)))) = some (r1, r2, r3, r4) := h
  clear h
  replace H := Option.bind_eq_some_iff.mp H
  obtain ⟨⟨t209, t210⟩, A20, H⟩ := H
  replace H : ((spec_l9Two.f k t209 t210).bind fun bt212 => (some (bt212.1, bt212.2.1, bt212.2.2.1, bt212.2.2.2.1))) = some (r1, r2, r3, r4) := H
  have A2 := Aside0.mk A20
  clear A20
  replace H := Option.bind_eq_some_iff.mp H
  obtain ⟨⟨t212, t213, t214, t215, t216⟩, A30, H⟩ := H
  replace H : (some (t212, t213, t214, t215)) = some (r1, r2, r3, r4) := H
  have A3 := Aside0.mk A30
  clear A30
  simp only [Option.some.injEq, Prod.mk.injEq] at H
  obtain ⟨rfl, rfl, rfl, rfl⟩ := H
  go_enter Try.func54, Try.ntmps54
  try go_wp2_with (first | ((with_reducible refine gate_dst (N := 2) rfl ?_); refine sqx 2 #[.int .i64 0, .int .i64 0] 62 ?_; intro gb207 hg w4 hbox hb; have BK207 := Aside0.mk (hbox); have GW207 := sqg HB hg; have GE207 := sqg HB hg; replace HB := sqs HB hb; clear hb hbox hg) | ((with_reducible refine gate_dst (N := 3) rfl ?_); refine sqx 3 #[.int .i64 0, .int .i64 0] 62 ?_; intro gb208 hg w5 hbox hb; have BK208 := Aside0.mk (hbox); have GW208 := sqg HB hg; have GE208 := sqg HB hg; have NB207_208 := sqn BK207 hg; have NB208_207 := sqm BK207 hg; replace BK207 := sqb BK207 hb; replace HB := sqs HB hb; clear hb hbox hg) | ((with_reducible refine gate_callee (f := 87) rfl ?_); refine sqL (some 8) Try.func87 #[.slice A0 l0.length c0] ?_; (with_reducible refine (spec_l1Open.calls _ _ l0 t209 t210 w _ ?side1 ?side2 ?side3 A2.out).mono ?_); (case side1 => repeat (first | (with_reducible first | exact HB.out | apply below_alloc | apply pw_below_drewN | apply below_drew1 | refine below_set ?_ GE207.out | refine below_set ?_ GE208.out) | exact HB.out)); (case side2 => exact HR0.out); (case side3 => exact HC0.out); rintro e w6 ⟨g211, rfl, hi, hb, hb2⟩; refine ⟨_, rfl, ?_⟩; have n0_ := Aside0.mk (blk_below (g := gb207) (o := .cells #[.int .i64 0, .int .i64 0] 62 (0, 0)) (by refine sqt ?_; exact BK207.out) hb2); have n1_ := Aside0.mk (blk_below (g := gb208) (o := .cells #[.int .i64 0, .int .i64 0] 62 (0, 0)) (by refine sqt ?_; exact BK208.out) hb2); have n2_ := Aside0.mk (hb); have n3_ := Aside0.mk (hi); have n4_ := Aside0.mk (IsS98.ne_blk hi (blk_below (g := gb207) (o := .cells #[.int .i64 0, .int .i64 0] 62 (0, 0)) (by refine sqt ?_; exact BK207.out) hb2) (by decide)); have n5_ := Aside0.mk (Ne.symm (IsS98.ne_blk hi (blk_below (g := gb207) (o := .cells #[.int .i64 0, .int .i64 0] 62 (0, 0)) (by refine sqt ?_; exact BK207.out) hb2) (by decide))); have n6_ := Aside0.mk (IsS98.ne_blk hi (blk_below (g := gb208) (o := .cells #[.int .i64 0, .int .i64 0] 62 (0, 0)) (by refine sqt ?_; exact BK208.out) hb2) (by decide)); have n7_ := Aside0.mk (Ne.symm (IsS98.ne_blk hi (blk_below (g := gb208) (o := .cells #[.int .i64 0, .int .i64 0] 62 (0, 0)) (by refine sqt ?_; exact BK208.out) hb2) (by decide))); clear BK207; clear BK208; clear HB; have BK207 := n0_; have BK208 := n1_; have HB := n2_; have HI211 := n3_; have NB211_207 := n4_; have NB207_211 := n5_; have NB211_208 := n6_; have NB208_211 := n7_; clear n0_ n1_ n2_ n3_ n4_ n5_ n6_ n7_; (try clear hb); (try clear hb2); (try clear hk); (try clear hi)) | ((with_reducible refine gate_callee (f := 104) rfl ?_); refine sqL (some 11) Try.func104 #[.pointer (some ⟨g211, 0, none⟩)] ?_; (with_reducible refine (spec_l9Two.calls k g211 t209 t210 t212 t213 t214 t215 t216 w _ ?side1 ?side2 A3.out).mono ?_); (case side1 => repeat (first | (with_reducible first | exact HI211.out | apply IsS98.alloc | apply IsS98.drewN | apply IsS98.drew | apply IsS98.set_1 | refine IsS98.far ?_ NB211_207.out _ | refine IsS98.far ?_ NB211_208.out _) | exact HI211.out)); (case side2 => repeat (first | (with_reducible first | exact HB.out | apply below_alloc | apply pw_below_drewN | apply below_drew1 | refine below_set ?_ (IsS98.ge HI211.out) | refine below_set ?_ GE207.out | refine below_set ?_ GE208.out) | exact HB.out)); rintro e w7 ⟨rfl, hi, hb, hk⟩; refine ⟨_, rfl, ?_⟩; have n0_ := Aside0.mk (KeepBut.blk hk (g' := gb207) (o := .cells #[.int .i64 0, .int .i64 0] 62 (0, 0)) (by refine sqt ?_; exact BK207.out) NB207_211.out (by simp)); have n1_ := Aside0.mk (KeepBut.blk hk (g' := gb208) (o := .cells #[.int .i64 0, .int .i64 0] 62 (0, 0)) (by refine sqt ?_; exact BK208.out) NB208_211.out (by simp)); have n2_ := Aside0.mk (hb); have n3_ := Aside0.mk (hi); clear BK207; clear BK208; clear HB; clear HI211; have BK207 := n0_; have BK208 := n1_; have HB := n2_; have HI211 := n3_; clear n0_ n1_ n2_ n3_; (try clear hb); (try clear hb2); (try clear hk); (try clear hi)) | ((with_reducible refine gate_dst (N := 5) rfl ?_); refine sqx 5 #[.int .i64 0, .int .i64 0] 62 ?_; intro gb217 hg w8 hbox hb; have n0_ := sqb BK207 hb; have n1_ := sqb BK208 hb; have n2_ := Aside0.mk (IsS98.below (by repeat (first | (with_reducible first | exact HI211.out | apply IsS98.alloc | apply IsS98.drewN | apply IsS98.drew | apply IsS98.set_1 | refine IsS98.far ?_ NB211_207.out _ | refine IsS98.far ?_ NB211_208.out _) | exact HI211.out)) hb); have n3_ := Aside0.mk (below_step (by repeat (first | (with_reducible first | exact HB.out | apply below_alloc | apply pw_below_drewN | apply below_drew1 | refine below_set ?_ (IsS98.ge HI211.out) | refine below_set ?_ GE207.out | refine below_set ?_ GE208.out) | exact HB.out)) hb); have n4_ := Aside0.mk (hbox); have n5_ := Aside0.mk ((by rw [hg]; exact (below_size (by repeat (first | (with_reducible first | exact HB.out | apply below_alloc | apply pw_below_drewN | apply below_drew1 | refine below_set ?_ (IsS98.ge HI211.out) | refine below_set ?_ GE207.out | refine below_set ?_ GE208.out) | exact HB.out))) : w.heap.size ≤ gb217)); have n6_ := Aside0.mk ((by rw [hg]; exact (below_size (by repeat (first | (with_reducible first | exact HB.out | apply below_alloc | apply pw_below_drewN | apply below_drew1 | refine below_set ?_ (IsS98.ge HI211.out) | refine below_set ?_ GE207.out | refine below_set ?_ GE208.out) | exact HB.out))) : w.heap.size ≤ gb217)); have n7_ := sqn BK207 hg; have n8_ := sqm BK207 hg; have n9_ := sqn BK208 hg; have n10_ := sqm BK208 hg; have n11_ := Aside0.mk ((by rw [hg]; exact Nat.ne_of_lt (IsS98.lt (show IsS98 w _ g211 t209 t216 from by repeat (first | (with_reducible first | exact HI211.out | apply IsS98.alloc | apply IsS98.drewN | apply IsS98.drew | apply IsS98.set_1 | refine IsS98.far ?_ NB211_207.out _ | refine IsS98.far ?_ NB211_208.out _) | exact HI211.out))) : g211 ≠ gb217)); have n12_ := Aside0.mk ((by rw [hg]; exact Nat.ne_of_gt (IsS98.lt (show IsS98 w _ g211 t209 t216 from by repeat (first | (with_reducible first | exact HI211.out | apply IsS98.alloc | apply IsS98.drewN | apply IsS98.drew | apply IsS98.set_1 | refine IsS98.far ?_ NB211_207.out _ | refine IsS98.far ?_ NB211_208.out _) | exact HI211.out))) : gb217 ≠ g211)); clear BK207; clear BK208; clear HI211; clear HB; have BK207 := n0_; have BK208 := n1_; have HI211 := n2_; have HB := n3_; have BK217 := n4_; have GW217 := n5_; have GE217 := n6_; have NB207_217 := n7_; have NB217_207 := n8_; have NB208_217 := n9_; have NB217_208 := n10_; have NB211_217 := n11_; have NB217_211 := n12_; clear n0_ n1_ n2_ n3_ n4_ n5_ n6_ n7_ n8_ n9_ n10_ n11_ n12_; clear hb hbox hg) | ((with_reducible refine gate_dst (N := 6) rfl ?_); refine sqx 6 #[.int .i64 0, .int .i64 0] 62 ?_; intro gb218 hg w9 hbox hb; have n0_ := sqb BK207 hb; have n1_ := sqb BK208 hb; have n2_ := Aside0.mk (IsS98.below (by repeat (first | (with_reducible first | exact HI211.out | apply IsS98.alloc | apply IsS98.drewN | apply IsS98.drew | apply IsS98.set_1 | refine IsS98.far ?_ NB211_207.out _ | refine IsS98.far ?_ NB211_208.out _ | refine IsS98.far ?_ NB211_217.out _) | exact HI211.out)) hb); have n3_ := sqb BK217 hb; have n4_ := Aside0.mk (below_step (by repeat (first | (with_reducible first | exact HB.out | apply below_alloc | apply pw_below_drewN | apply below_drew1 | refine below_set ?_ (IsS98.ge HI211.out) | refine below_set ?_ GE207.out | refine below_set ?_ GE208.out | refine below_set ?_ GE217.out) | exact HB.out)) hb); have n5_ := Aside0.mk (hbox); have n6_ := Aside0.mk ((by rw [hg]; exact (below_size (by repeat (first | (with_reducible first | exact HB.out | apply below_alloc | apply pw_below_drewN | apply below_drew1 | refine below_set ?_ (IsS98.ge HI211.out) | refine below_set ?_ GE207.out | refine below_set ?_ GE208.out | refine below_set ?_ GE217.out) | exact HB.out))) : w.heap.size ≤ gb218)); have n7_ := Aside0.mk ((by rw [hg]; exact (below_size (by repeat (first | (with_reducible first | exact HB.out | apply below_alloc | apply pw_below_drewN | apply below_drew1 | refine below_set ?_ (IsS98.ge HI211.out) | refine below_set ?_ GE207.out | refine below_set ?_ GE208.out | refine below_set ?_ GE217.out) | exact HB.out))) : w.heap.size ≤ gb218)); have n8_ := sqn BK207 hg; have n9_ := sqm BK207 hg; have n10_ := sqn BK208 hg; have n11_ := sqm BK208 hg; have n12_ := sqn BK217 hg; have n13_ := sqm BK217 hg; have n14_ := Aside0.mk ((by rw [hg]; exact Nat.ne_of_lt (IsS98.lt (show IsS98 w _ g211 t209 t216 from by repeat (first | (with_reducible first | exact HI211.out | apply IsS98.alloc | apply IsS98.drewN | apply IsS98.drew | apply IsS98.set_1 | refine IsS98.far ?_ NB211_207.out _ | refine IsS98.far ?_ NB211_208.out _ | refine IsS98.far ?_ NB211_217.out _) | exact HI211.out))) : g211 ≠ gb218)); have n15_ := Aside0.mk ((by rw [hg]; exact Nat.ne_of_gt (IsS98.lt (show IsS98 w _ g211 t209 t216 from by repeat (first | (with_reducible first | exact HI211.out | apply IsS98.alloc | apply IsS98.drewN | apply IsS98.drew | apply IsS98.set_1 | refine IsS98.far ?_ NB211_207.out _ | refine IsS98.far ?_ NB211_208.out _ | refine IsS98.far ?_ NB211_217.out _) | exact HI211.out))) : gb218 ≠ g211)); clear BK207; clear BK208; clear HI211; clear BK217; clear HB; have BK207 := n0_; have BK208 := n1_; have HI211 := n2_; have BK217 := n3_; have HB := n4_; have BK218 := n5_; have GW218 := n6_; have GE218 := n7_; have NB207_218 := n8_; have NB218_207 := n9_; have NB208_218 := n10_; have NB218_208 := n11_; have NB217_218 := n12_; have NB218_217 := n13_; have NB211_218 := n14_; have NB218_211 := n15_; clear n0_ n1_ n2_ n3_ n4_ n5_ n6_ n7_ n8_ n9_ n10_ n11_ n12_ n13_ n14_ n15_; clear hb hbox hg; have hnb10 := NB217_207.out; have hnc10 := NB207_217.out; have hnb11 := NB217_208.out; have hnc11 := NB208_217.out; have hnb12 := NB217_218.out; have hnc12 := NB218_217.out; have hnb13 := NB217_211.out; have hnc13 := NB211_217.out; obtain ⟨hcz14_0, hcz14_1, hfz14_0, hfz14_1⟩ := sqc2 BK217; have hnb15 := NB218_207.out; have hnc15 := NB207_218.out; have hnb16 := NB218_208.out; have hnc16 := NB208_218.out; have hnb17 := NB218_211.out; have hnc17 := NB211_218.out; obtain ⟨hcz18_0, hcz18_1, hfz18_0, hfz18_1⟩ := sqc2 BK218))
  have n0_ : Aside0 (((((w9.setCell ⟨gb217, 0, none⟩ (.int .i64 t212)).setCell ⟨gb217, 1, none⟩ (.int .i64 t213)).setCell ⟨gb218, 0, none⟩ (.int .i64 t214)).setCell ⟨gb218, 1, none⟩ (.int .i64 t215)).heap[gb207]? = some (.cells #[.int .i64 0, .int .i64 0] 62 (0, 0))) := ⟨by refine sqt ?_; refine blk_far ?_ NB207_218.out _; refine sqt ?_; refine blk_far ?_ NB207_218.out _; refine sqt ?_; refine blk_far ?_ NB207_217.out _; refine sqt ?_; refine blk_far ?_ NB207_217.out _; refine sqt ?_; exact BK207.out⟩
  have n1_ : Aside0 (((((w9.setCell ⟨gb217, 0, none⟩ (.int .i64 t212)).setCell ⟨gb217, 1, none⟩ (.int .i64 t213)).setCell ⟨gb218, 0, none⟩ (.int .i64 t214)).setCell ⟨gb218, 1, none⟩ (.int .i64 t215)).heap[gb208]? = some (.cells #[.int .i64 0, .int .i64 0] 62 (0, 0))) := ⟨by refine sqt ?_; refine blk_far ?_ NB208_218.out _; refine sqt ?_; refine blk_far ?_ NB208_218.out _; refine sqt ?_; refine blk_far ?_ NB208_217.out _; refine sqt ?_; refine blk_far ?_ NB208_217.out _; refine sqt ?_; exact BK208.out⟩
  have n2_ : Aside0 (((((w9.setCell ⟨gb217, 0, none⟩ (.int .i64 t212)).setCell ⟨gb217, 1, none⟩ (.int .i64 t213)).setCell ⟨gb218, 0, none⟩ (.int .i64 t214)).setCell ⟨gb218, 1, none⟩ (.int .i64 t215)).heap[gb217]? = some (.cells #[.int .i64 t212, .int .i64 t213] 62 (0, 0))) := ⟨by refine sqt ?_; refine blk_far ?_ NB217_218.out _; refine sqt ?_; refine blk_far ?_ NB217_218.out _; refine sqt ?_; refine blk_put (cs := #[.int .i64 t212, .int .i64 0]) ?_ 1 _ rfl; refine sqt ?_; refine blk_put (cs := #[.int .i64 0, .int .i64 0]) ?_ 0 _ rfl; refine sqt ?_; exact BK217.out⟩
  have n3_ : Aside0 (((((w9.setCell ⟨gb217, 0, none⟩ (.int .i64 t212)).setCell ⟨gb217, 1, none⟩ (.int .i64 t213)).setCell ⟨gb218, 0, none⟩ (.int .i64 t214)).setCell ⟨gb218, 1, none⟩ (.int .i64 t215)).heap[gb218]? = some (.cells #[.int .i64 t214, .int .i64 t215] 62 (0, 0))) := ⟨by refine sqt ?_; refine blk_put (cs := #[.int .i64 t214, .int .i64 0]) ?_ 1 _ rfl; refine sqt ?_; refine blk_put (cs := #[.int .i64 0, .int .i64 0]) ?_ 0 _ rfl; refine sqt ?_; refine blk_far ?_ NB218_217.out _; refine sqt ?_; refine blk_far ?_ NB218_217.out _; refine sqt ?_; exact BK218.out⟩
  have n4_ : Aside0 (IsS98 w ((((w9.setCell ⟨gb217, 0, none⟩ (.int .i64 t212)).setCell ⟨gb217, 1, none⟩ (.int .i64 t213)).setCell ⟨gb218, 0, none⟩ (.int .i64 t214)).setCell ⟨gb218, 1, none⟩ (.int .i64 t215)) g211 t209 t216) := ⟨by repeat (first | (with_reducible first | exact HI211.out | apply IsS98.alloc | apply IsS98.drewN | apply IsS98.drew | apply IsS98.set_1 | refine IsS98.far ?_ NB211_207.out _ | refine IsS98.far ?_ NB211_208.out _ | refine IsS98.far ?_ NB211_217.out _ | refine IsS98.far ?_ NB211_218.out _) | exact HI211.out)⟩
  have n5_ : Aside0 (Below w.heap.size w ((((w9.setCell ⟨gb217, 0, none⟩ (.int .i64 t212)).setCell ⟨gb217, 1, none⟩ (.int .i64 t213)).setCell ⟨gb218, 0, none⟩ (.int .i64 t214)).setCell ⟨gb218, 1, none⟩ (.int .i64 t215))) := ⟨by repeat (first | (with_reducible first | exact HB.out | apply below_alloc | apply pw_below_drewN | apply below_drew1 | refine below_set ?_ (IsS98.ge HI211.out) | refine below_set ?_ GE207.out | refine below_set ?_ GE208.out | refine below_set ?_ GE217.out | refine below_set ?_ GE218.out) | exact HB.out)⟩
  (try clear BK207)
  (try clear BK208)
  (try clear BK217)
  (try clear BK218)
  (try clear HI211)
  (try clear HB)
  generalize ((((w9.setCell ⟨gb217, 0, none⟩ (.int .i64 t212)).setCell ⟨gb217, 1, none⟩ (.int .i64 t213)).setCell ⟨gb218, 0, none⟩ (.int .i64 t214)).setCell ⟨gb218, 1, none⟩ (.int .i64 t215)) = w19 at n0_ n1_ n2_ n3_ n4_ n5_ ⊢
  have BK207 := n0_
  have BK208 := n1_
  have BK217 := n2_
  have BK218 := n3_
  have HI211 := n4_
  have HB := n5_
  clear n0_ n1_ n2_ n3_ n4_ n5_
  replace BK207 := Aside0.mk (blk_drew BK207.out)
  replace BK208 := Aside0.mk (blk_drew BK208.out)
  replace BK217 := Aside0.mk (blk_drew BK217.out)
  replace BK218 := Aside0.mk (blk_drew BK218.out)
  replace HI211 := Aside0.mk (IsS98.drew HI211.out)
  replace HB := Aside0.mk (below_drew1 HB.out)
  refine start_ (n := 4) (S := fun w' => w'.cell? ⟨gb217, 0, none⟩ = some (.int .i64 t212) ∧ w'.cell? ⟨gb217, 1, none⟩ = some (.int .i64 t213) ∧ w'.cell? ⟨gb218, 0, none⟩ = some (.int .i64 t214) ∧ w'.cell? ⟨gb218, 1, none⟩ = some (.int .i64 t215)) (ds := []) #[false, false, false, false] (by kernel_rfl) rfl rfl ⟨(blk_cell BK217.out 0).trans rfl, (blk_cell BK217.out 1).trans rfl, (blk_cell BK218.out 0).trans rfl, (blk_cell BK218.out 1).trans rfl⟩ (fun hHeld => ?_)
  generalize w19.drew = w20 at BK207 BK208 BK217 BK218 HI211 HB hHeld ⊢
  refine take_ (i := 0) (N := some 14) (v := ?_) (a' := ?_) #[true, false, false, false] rfl rfl (by kernel_rfl) (fun _ _ _ h => h) (Or.inl ⟨by rfl, ?_⟩) hHeld ?_ ?_
  rotate_left
  · rintro w' ⟨s0, s1, s2, s3⟩
    go_simp
    with_reducible rfl
  rotate_left
  · simp only [Act.put, List.setIfInBounds_toArray, List.set_cons_zero, List.set_cons_succ, i64_w, i32_w]
    rfl
  refine take_ (i := 1) (N := some 15) (v := ?_) (a' := ?_) #[true, true, false, false] rfl rfl (by kernel_rfl) (fun _ _ _ h => h) (Or.inl ⟨by rfl, ?_⟩) hHeld ?_ ?_
  rotate_left
  · rintro w' ⟨s0, s1, s2, s3⟩
    go_simp
    with_reducible rfl
  rotate_left
  · simp only [Act.put, List.setIfInBounds_toArray, List.set_cons_zero, List.set_cons_succ, i64_w, i32_w]
    rfl
  refine one_ (i := 2) (N := none) #[true, true, true, false] rfl rfl (by kernel_rfl) (by decide) (fun K hK => ?_)
  have hs21 : w20.cell? ⟨gb207, 0, none⟩ = some (.int .i64 0) := (blk_cell BK207.out 0).trans rfl
  have hfs21 := blk_frozen BK207.out 0
  have hns21_1 := NB208_207.out
  have hns21_2 := NB217_207.out
  have hns21_3 := NB218_207.out
  have hms21_1 := NB207_208.out
  have hms21_2 := NB207_217.out
  have hms21_3 := NB207_218.out
  have hs22 : w20.cell? ⟨gb207, 1, none⟩ = some (.int .i64 0) := (blk_cell BK207.out 1).trans rfl
  have hfs22 := blk_frozen BK207.out 1
  have hns22_1 := NB208_207.out
  have hns22_2 := NB217_207.out
  have hns22_3 := NB218_207.out
  have hms22_1 := NB207_208.out
  have hms22_2 := NB207_217.out
  have hms22_3 := NB207_218.out
  refine skip_ (w1 := ?_) (by rfl) rfl ?_ ?_
  rotate_left
  · go_simp
    rfl
  refine hK.out _ _ ⟨((cell_far (p := ⟨gb207, _, none⟩) NB217_207.out _).trans (((cell_far (p := ⟨gb207, _, none⟩) NB217_207.out _).trans (hHeld.1)))), ((cell_far (p := ⟨gb207, _, none⟩) NB217_207.out _).trans (((cell_far (p := ⟨gb207, _, none⟩) NB217_207.out _).trans (hHeld.2.1)))), ((cell_far (p := ⟨gb207, _, none⟩) NB218_207.out _).trans (((cell_far (p := ⟨gb207, _, none⟩) NB218_207.out _).trans (hHeld.2.2.1)))), ((cell_far (p := ⟨gb207, _, none⟩) NB218_207.out _).trans (((cell_far (p := ⟨gb207, _, none⟩) NB218_207.out _).trans (hHeld.2.2.2))))⟩ (fun hHeld => ?_)
  clear hK K
  refine one_ (i := 3) (N := none) #[true, true, true, true] rfl rfl (by kernel_rfl) (by decide) (fun K hK => ?_)
  have hs23 : w20.cell? ⟨gb208, 0, none⟩ = some (.int .i64 0) := (blk_cell BK208.out 0).trans rfl
  have hfs23 := blk_frozen BK208.out 0
  have hns23_0 := NB207_208.out
  have hns23_2 := NB217_208.out
  have hns23_3 := NB218_208.out
  have hms23_0 := NB208_207.out
  have hms23_2 := NB208_217.out
  have hms23_3 := NB208_218.out
  have hs24 : w20.cell? ⟨gb208, 1, none⟩ = some (.int .i64 0) := (blk_cell BK208.out 1).trans rfl
  have hfs24 := blk_frozen BK208.out 1
  have hns24_0 := NB207_208.out
  have hns24_2 := NB217_208.out
  have hns24_3 := NB218_208.out
  have hms24_0 := NB208_207.out
  have hms24_2 := NB208_217.out
  have hms24_3 := NB208_218.out
  refine skip_ (w1 := ?_) (by rfl) rfl ?_ ?_
  rotate_left
  · go_simp
    rfl
  refine hK.out _ _ ⟨((cell_far (p := ⟨gb208, _, none⟩) NB217_208.out _).trans (((cell_far (p := ⟨gb208, _, none⟩) NB217_208.out _).trans (hHeld.1)))), ((cell_far (p := ⟨gb208, _, none⟩) NB217_208.out _).trans (((cell_far (p := ⟨gb208, _, none⟩) NB217_208.out _).trans (hHeld.2.1)))), ((cell_far (p := ⟨gb208, _, none⟩) NB218_208.out _).trans (((cell_far (p := ⟨gb208, _, none⟩) NB218_208.out _).trans (hHeld.2.2.1)))), ((cell_far (p := ⟨gb208, _, none⟩) NB218_208.out _).trans (((cell_far (p := ⟨gb208, _, none⟩) NB218_208.out _).trans (hHeld.2.2.2))))⟩ (fun hHeld => ?_)
  clear hK K
  refine done_ (by kernel_rfl) ?_
  try go_wp2
  refine bodyPost_ret (results_cc rfl _ _ gb207 gb208 62 62 #[.int .i64 t212, .int .i64 t213] #[.int .i64 t214, .int .i64 t215] (0, 0) (0, 0) _ _ rfl (by refine sqt ?_; refine blk_far ?_ NB207_208.out _; refine sqt ?_; refine blk_far ?_ NB207_208.out _; refine sqt ?_; refine blk_put (cs := #[.int .i64 t212, .int .i64 0]) ?_ 1 _ rfl; refine sqt ?_; refine blk_put (cs := #[.int .i64 0, .int .i64 0]) ?_ 0 _ rfl; refine sqt ?_; exact BK207.out) Try.underlying62 rfl (by kernel_rfl) rfl (by refine sqt ?_; refine blk_put (cs := #[.int .i64 t214, .int .i64 0]) ?_ 1 _ rfl; refine sqt ?_; refine blk_put (cs := #[.int .i64 0, .int .i64 0]) ?_ 0 _ rfl; refine sqt ?_; refine blk_far ?_ NB208_207.out _; refine sqt ?_; refine blk_far ?_ NB208_207.out _; refine sqt ?_; exact BK208.out) Try.underlying62 rfl (by kernel_rfl)) rfl ?_
  exact ⟨by first | rfl | (simp [errW_none, errW_some] <;> rfl) | (simp [*, errW_none, errW_some] <;> rfl), by repeat (first | (with_reducible first | exact HB.out | apply below_alloc | apply pw_below_drewN | apply below_drew1 | refine below_set ?_ (IsS98.ge HI211.out) | refine below_set ?_ GE207.out | refine below_set ?_ GE208.out | refine below_set ?_ GE217.out | refine below_set ?_ GE218.out) | exact HB.out)⟩

/-! ### impl_NumOk: function 92 -/
set_option maxHeartbeats 8000000 in
set_option maxRecDepth 100000 in
theorem impl_NumOk.calls (a0 : Int) (r : Bool) (w : World) (h : impl_NumOk.f a0 = some r) :
    Calls Try.prog 92 #[.int .i64 a0] w fun e w' => e = .returned (.bool r) ∧ Drawn0 w w' := by
  have H : (if a0 ≥ (-2147483648) then (some (decide (a0 ≤ 2147483647))) else (some false)) = some r := h
  clear h
  by_cases c2 : a0 ≥ (-2147483648)
  · rw [if_pos c2] at H
    have c2b0 : decide ((-2147483648) ≤ a0) = true := decide_eq_true c2
    clear c2
    obtain rfl := Option.some.inj H
    go_enter Try.func92, Try.ntmps92
    go_wp2
    go_ret
    exact ⟨by first | rfl | (simp; done) | (simp [*]; done), by repeat (first | exact Drawn0.refl _ | apply Drawn0.step)⟩
  · rw [if_neg c2] at H
    have c2b0 : decide ((-2147483648) ≤ a0) = false := decide_eq_false c2
    clear c2
    obtain rfl := Option.some.inj H
    go_enter Try.func92, Try.ntmps92
    go_wp2
    go_ret
    exact ⟨by first | rfl | (simp; done) | (simp [*]; done), by repeat (first | exact Drawn0.refl _ | apply Drawn0.step)⟩

/-! ### impl_RestOk: function 61 -/
set_option maxHeartbeats 8000000 in
set_option maxRecDepth 100000 in
theorem impl_RestOk.calls (a0_0 : Int) (a0_1 : Int) (r : Bool) (w : World) (h : impl_RestOk.f a0_0 a0_1 = some r) :
    Calls Try.prog 61 #[.agg #[.int .i64 a0_0, .int .i64 a0_1]] w fun e w' => e = .returned (.bool r) ∧ Below w.heap.size w w' := by
  have hu62 := Try.underlying62
  have HB := Aside0.mk (Below.refl w.heap.size w)
  have H : (if a0_0 = 0 then ((impl_NumOk.f a0_1).bind fun t220 => (some t220)) else (if a0_0 ≥ 1 then (if a0_0 ≤ 65536 then (if a0_1 ≥ 0 then (some (decide (a0_1 < a0_0))) else (some false)) else (some false)) else (some false))) = some r := h
  clear h
  by_cases c2 : a0_0 = 0
  · rw [if_pos c2] at H
    have c2b0 : (a0_0 == 0) = true := beq_iff_eq.mpr c2
    have c2b1 : (a0_0 != 0) = false := bne_eq_false_iff_eq.mpr c2
    clear c2
    replace H := Option.bind_eq_some_iff.mp H
    obtain ⟨t220, A30, H⟩ := H
    replace H : (some t220) = some r := H
    have A3 := Aside0.mk A30
    clear A30
    obtain rfl := Option.some.inj H
    go_enter Try.func61, Try.ntmps61
    go_wp2_with (first | ((with_reducible refine gate_dst (N := 1) rfl ?_); refine sqx 1 #[.int .i64 a0_0, .int .i64 a0_1] 62 ?_; intro gb219 hg w4 hbox hb; have BK219 := Aside0.mk (hbox); have GW219 := sqg HB hg; have GE219 := sqg HB hg; replace HB := sqs HB hb; clear hb hbox hg; obtain ⟨hcz5_0, hcz5_1, hfz5_0, hfz5_1⟩ := sqc2 BK219) | ((with_reducible refine gate_callee (f := 92) rfl ?_); refine sqL (some 8) Try.func92 #[.int .i64 a0_1] ?_; (with_reducible refine (impl_NumOk.calls a0_1 t220 _ A3.out).mono ?_); rintro e w' ⟨rfl, ⟨nd, rfl⟩⟩; refine ⟨_, rfl, ?_⟩))
    go_ret
    exact sqe HB
  · rw [if_neg c2] at H
    have c2b0 : (a0_0 == 0) = false := beq_eq_false_iff_ne.mpr c2
    have c2b1 : (a0_0 != 0) = true := bne_iff_ne.mpr c2
    by_cases c6 : a0_0 ≥ 1
    · rw [if_pos c6] at H
      have c6b0 : decide (1 ≤ a0_0) = true := decide_eq_true c6
      clear c6
      by_cases c7 : a0_0 ≤ 65536
      · rw [if_pos c7] at H
        have c7b0 : decide (a0_0 ≤ 65536) = true := decide_eq_true c7
        clear c7
        by_cases c8 : a0_1 ≥ 0
        · rw [if_pos c8] at H
          have c8b0 : decide (0 ≤ a0_1) = true := decide_eq_true c8
          clear c8
          obtain rfl := Option.some.inj H
          go_enter Try.func61, Try.ntmps61
          go_wp2_with (first | ((with_reducible refine gate_dst (N := 1) rfl ?_); refine sqx 1 #[.int .i64 a0_0, .int .i64 a0_1] 62 ?_; intro gb219 hg w9 hbox hb; have BK219 := Aside0.mk (hbox); have GW219 := sqg HB hg; have GE219 := sqg HB hg; replace HB := sqs HB hb; clear hb hbox hg; obtain ⟨hcz10_0, hcz10_1, hfz10_0, hfz10_1⟩ := sqc2 BK219))
          go_ret
          exact sqe HB
        · rw [if_neg c8] at H
          have c8b0 : decide (0 ≤ a0_1) = false := decide_eq_false c8
          clear c8
          obtain rfl := Option.some.inj H
          go_enter Try.func61, Try.ntmps61
          go_wp2_with (first | ((with_reducible refine gate_dst (N := 1) rfl ?_); refine sqx 1 #[.int .i64 a0_0, .int .i64 a0_1] 62 ?_; intro gb219 hg w11 hbox hb; have BK219 := Aside0.mk (hbox); have GW219 := sqg HB hg; have GE219 := sqg HB hg; replace HB := sqs HB hb; clear hb hbox hg; obtain ⟨hcz12_0, hcz12_1, hfz12_0, hfz12_1⟩ := sqc2 BK219))
          go_ret
          exact sqe HB
      · rw [if_neg c7] at H
        have c7b0 : decide (a0_0 ≤ 65536) = false := decide_eq_false c7
        clear c7
        obtain rfl := Option.some.inj H
        go_enter Try.func61, Try.ntmps61
        go_wp2_with (first | ((with_reducible refine gate_dst (N := 1) rfl ?_); refine sqx 1 #[.int .i64 a0_0, .int .i64 a0_1] 62 ?_; intro gb219 hg w13 hbox hb; have BK219 := Aside0.mk (hbox); have GW219 := sqg HB hg; have GE219 := sqg HB hg; replace HB := sqs HB hb; clear hb hbox hg; obtain ⟨hcz14_0, hcz14_1, hfz14_0, hfz14_1⟩ := sqc2 BK219))
        go_ret
        exact sqe HB
    · rw [if_neg c6] at H
      have c6b0 : decide (1 ≤ a0_0) = false := decide_eq_false c6
      clear c6
      obtain rfl := Option.some.inj H
      go_enter Try.func61, Try.ntmps61
      go_wp2_with (first | ((with_reducible refine gate_dst (N := 1) rfl ?_); refine sqx 1 #[.int .i64 a0_0, .int .i64 a0_1] 62 ?_; intro gb219 hg w15 hbox hb; have BK219 := Aside0.mk (hbox); have GW219 := sqg HB hg; have GE219 := sqg HB hg; replace HB := sqs HB hb; clear hb hbox hg; obtain ⟨hcz16_0, hcz16_1, hfz16_0, hfz16_1⟩ := sqc2 BK219))
      go_ret
      exact sqe HB

/-! ### impl_restAll: function 105 -/
set_option maxHeartbeats 8000000 in
set_option maxRecDepth 100000 in
theorem impl_restAll.calls  (r1 : Int) (r2 : Int) (w : World) (h : impl_restAll.f  = some (r1, r2)) :
    Calls Try.prog 105 #[] w fun e w' => e = .returned (.agg #[.int .i64 r1, .int .i64 r2]) ∧ Below w.heap.size w w' := by
  have hu62 := Try.underlying62
  have HB := Aside0.mk (Below.refl w.heap.size w)
  have H : (some (1, 0)) = some (r1, r2) := h
  clear h
  simp only [Option.some.injEq, Prod.mk.injEq] at H
  obtain ⟨rfl, rfl⟩ := H
  go_enter Try.func105, Try.ntmps105
  go_wp2_with (first | ((with_reducible refine gate_dst (N := 0) rfl ?_); refine sqx 0 #[.int .i64 0, .int .i64 0] 62 ?_; intro gb221 hg w1 hbox hb; have BK221 := Aside0.mk (hbox); have GW221 := sqg HB hg; have GE221 := sqg HB hg; replace HB := sqs HB hb; clear hb hbox hg; obtain ⟨hcz2_0, hcz2_1, hfz2_0, hfz2_1⟩ := sqc2 BK221))
  refine bodyPost_ret (results_cell_row rfl _ _ gb221 62 #[.int .i64 1, .int .i64 0] (0, 0) _ rfl (by refine sqt ?_; refine blk_put (cs := #[.int .i64 1, .int .i64 0]) ?_ 1 _ rfl; refine sqt ?_; refine blk_put (cs := #[.int .i64 0, .int .i64 0]) ?_ 0 _ rfl; refine sqt ?_; exact BK221.out) Try.underlying62 rfl (by kernel_rfl)) rfl ?_
  exact sqe HB

/-! ### impl_restGcd: function 107 -/
theorem impl_restGcd.mono_l : ∀ k, (∀ y0 y1 y2 y3, LeO (impl_restGcd.l0 k y0 y1 y2 y3) (impl_restGcd.l0 (k + 1) y0 y1 y2 y3)) ∧ (∀ y0 y1 y2 y3 y4, LeO (impl_restGcd.l1 k y0 y1 y2 y3 y4) (impl_restGcd.l1 (k + 1) y0 y1 y2 y3 y4))
  | 0 => ⟨fun _ _ _ _ r h => by simp [impl_restGcd.l0] at h, fun _ _ _ _ _ r h => by simp [impl_restGcd.l1] at h⟩
  | k + 1 => by
    obtain ⟨ih0, ih1⟩ := impl_restGcd.mono_l k
    refine ⟨?_, ?_⟩
    · intro y0 y1 y2 y3
      unfold impl_restGcd.l0
      repeat' first
      | (with_reducible exact ih0 _ _ _ _)
      | (with_reducible exact ih1 _ _ _ _ _)
      | (with_reducible exact LeO.refl _)
      | (with_reducible exact LeO.none _)
      | (with_reducible refine LeO.ite ?_ ?_)
      | (with_reducible refine LeO.bind ?_ (fun _ => ?_))
      | exact ih0 _ _ _ _
      | exact ih1 _ _ _ _ _
      | exact LeO.none _
      | refine LeO.ite ?_ ?_
      | refine LeO.bind ?_ (fun _ => ?_)
    · intro y0 y1 y2 y3 y4
      unfold impl_restGcd.l1
      repeat' first
      | (with_reducible exact ih0 _ _ _ _)
      | (with_reducible exact ih1 _ _ _ _ _)
      | (with_reducible exact LeO.refl _)
      | (with_reducible exact LeO.none _)
      | (with_reducible refine LeO.ite ?_ ?_)
      | (with_reducible refine LeO.bind ?_ (fun _ => ?_))
      | exact ih0 _ _ _ _
      | exact ih1 _ _ _ _ _
      | exact LeO.none _
      | refine LeO.ite ?_ ?_
      | refine LeO.bind ?_ (fun _ => ?_)
theorem impl_restGcd.mono : ∀ a0 k, LeO (impl_restGcd.f k a0) (impl_restGcd.f (k + 1) a0) := by
  intro a0 k
  obtain ⟨ih0, ih1⟩ := impl_restGcd.mono_l k
  unfold impl_restGcd.f
  repeat' first
      | (with_reducible exact ih0 _ _ _ _)
      | (with_reducible exact ih1 _ _ _ _ _)
      | (with_reducible exact LeO.refl _)
      | (with_reducible exact LeO.none _)
      | (with_reducible refine LeO.ite ?_ ?_)
      | (with_reducible refine LeO.bind ?_ (fun _ => ?_))
      | exact ih0 _ _ _ _
      | exact ih1 _ _ _ _ _
      | exact LeO.none _
      | refine LeO.ite ?_ ?_
      | refine LeO.bind ?_ (fun _ => ?_)
set_option maxHeartbeats 8000000 in
set_option maxRecDepth 100000 in
theorem impl_restGcd.calls (k : Nat) (A0 : Option Addr) (c0 : Nat) (l0 : List Int) (r : Int) (w : World) (hr0 : Kd.C (Kd.int .i64) w A0 l0.length l0) (hc0 : l0.length ≤ c0) (h : impl_restGcd.f k l0 = some r) :
    Calls Try.prog 107 #[.slice A0 l0.length c0] w fun e w' => e = .returned (.int .i64 r) ∧ Drawn0 w w' := by
  have HR0 := Aside0.mk hr0
  have HC0 := Aside0.mk hc0
  clear hr0 hc0
  have H : (impl_restGcd.l0 k 0 l0 (l0.length : Int) 0) = some r := h
  clear h
  have H' := Aside0.mk H
  clear H
  go_enter Try.func107, Try.ntmps107
  go_wp2
  repeat (go_quiet (fail); try go_wp2)
  go_loopg [3, 8] k (fun kq v3 v8 w' => ∃ (x3_1 : Int) (x8_1 : Int), v3 = .int .i64 x3_1 ∧ v8 = .int .i64 x8_1 ∧ Aside0 (impl_restGcd.l0 kq x3_1 l0 (l0.length : Int) x8_1 = some r) ∧ Aside0 (kq ≤ k) ∧ Drawn0 w w')
  case atStart => exact ⟨(0), (0), (by first | rfl | (simp; done) | (simp [*]; done)), (by first | rfl | (simp; done) | (simp [*]; done)), H', ⟨Nat.le_refl _⟩, by repeat (first | exact Drawn0.refl _ | apply Drawn0.step)⟩
  case round =>
    clear H'
    try clear c1
    obtain ⟨x3_1, x8_1, rfl, rfl, HA, HK1, ⟨m1, rfl⟩⟩ := hrel
    cases gk with
    | zero => exact absurd HA.out (by simp [impl_restGcd.l0])
    | succ k1 =>
      have H := HA.out
      clear HA
      simp only [impl_restGcd.l0] at H
      by_cases c2 : x8_1 < (l0.length : Int)
      · rw [if_pos c2] at H
        have c2b0 : decide (x8_1 < (l0.length : Int)) = true := decide_eq_true c2
        clear c2
        by_cases c3 : 0 ≤ x8_1
        · rw [if_pos c3] at H
          have c3b0 : decide (0 ≤ x8_1) = true := decide_eq_true c3
          clear c3
          by_cases c4 : x8_1 < (l0.length : Int)
          · rw [if_pos c4] at H
            have c4b0 : decide (x8_1 < (l0.length : Int)) = true := decide_eq_true c4
            clear c4
            have H' := Aside0.mk H
            clear H
            have p222 : 0 ≤ (x8_1 : Int) := of_decide_eq_true (by first | (with_reducible assumption) | assumption)
            have q222 : x8_1 < (l0.length : Int) := of_decide_eq_true (by first | (with_reducible assumption) | assumption)
            obtain ⟨ad222, e222, hx222_0⟩ := Kd.at_int HR0.out x8_1 p222 q222
            cases e222
            replace p222 := eq_true p222
            replace q222 := eq_true q222
            go_wp2
            repeat (go_quiet (fail); try go_wp2)
            go_loopg [3, 5] k1 (fun kq v3 v5 w' => ∃ (x3_2 : Int) (x5_2 : Int), v3 = .int .i64 x3_2 ∧ v5 = .int .i64 x5_2 ∧ Aside0 (impl_restGcd.l1 kq x3_2 x5_2 l0 (l0.length : Int) x8_1 = some r) ∧ Aside0 (kq ≤ k1) ∧ Drawn0 w w')
            case atStart => exact ⟨(x3_1), (rd l0 x8_1), (by first | rfl | (simp; done) | (simp [*]; done)), (by first | rfl | (simp; done) | (simp [*]; done)), H', ⟨Nat.le_refl _⟩, by repeat (first | exact Drawn0.refl _ | apply Drawn0.step)⟩
            case round =>
              clear H'
              try clear c1
              try clear c2
              try clear c2b0
              try clear p2
              try clear q2
              try clear hx2
              try clear c3
              try clear c3b0
              try clear c4
              try clear c4b0
              try clear hx222_0
              try clear p222
              try clear q222
              obtain ⟨x3_2, x5_2, rfl, rfl, HA, HK2, ⟨m2, rfl⟩⟩ := hrel
              cases gk with
              | zero => exact absurd HA.out (by simp [impl_restGcd.l1])
              | succ k2 =>
                have H := HA.out
                clear HA
                simp only [impl_restGcd.l1] at H
                by_cases c5 : x5_2 = 0
                · rw [if_pos c5] at H
                  have c5b0 : (x5_2 == 0) = true := beq_iff_eq.mpr c5
                  have c5b1 : (x5_2 != 0) = false := bne_eq_false_iff_eq.mpr c5
                  clear c5
                  have H' := Aside0.mk H
                  clear H
                  go_wp2
                  repeat (go_quiet (fail); try go_wp2)
                  go_roundg k2
                  case measure => have := HK1.out; have := HK2.out; omega
                  case rel => exact ⟨(x3_2), (wrap64 (x8_1 + 1)), (by first | rfl | (simp; done) | (simp [*]; done)), (by first | rfl | (simp; done) | (simp [*]; done)), H', ⟨by have := HK1.out; have := HK2.out; omega⟩, by repeat (first | exact Drawn0.refl _ | apply Drawn0.step)⟩
                · rw [if_neg c5] at H
                  have c5b0 : (x5_2 == 0) = false := beq_eq_false_iff_ne.mpr c5
                  have c5b1 : (x5_2 != 0) = true := bne_iff_ne.mpr c5
                  have H' := Aside0.mk H
                  clear H
                  go_wp2
                  repeat (go_quiet (fail); try go_wp2)
                  go_roundg k2
                  case measure => have := HK1.out; have := HK2.out; omega
                  case rel => exact ⟨(x5_2), (Int.tmod x3_2 x5_2), (by first | rfl | (simp; done) | (simp [*]; done)), (by first | rfl | (simp; done) | (simp [*]; done)), H', ⟨by have := HK1.out; have := HK2.out; omega⟩, by repeat (first | exact Drawn0.refl _ | apply Drawn0.step)⟩
          · rw [if_neg c4] at H
            exact absurd H (by simp)
        · rw [if_neg c3] at H
          exact absurd H (by simp)
      · rw [if_neg c2] at H
        have c2b0 : decide (x8_1 < (l0.length : Int)) = false := decide_eq_false c2
        clear c2
        by_cases c6 : x3_1 < 0
        · rw [if_pos c6] at H
          have c6b0 : decide (x3_1 < 0) = true := decide_eq_true c6
          clear c6
          obtain rfl := Option.some.inj H
          go_wp2
          repeat (go_quiet (fail); try go_wp2)
          go_ret
          exact ⟨by first | rfl | (simp; done) | (simp [*]; done), by repeat (first | exact Drawn0.refl _ | apply Drawn0.step)⟩
        · rw [if_neg c6] at H
          have c6b0 : decide (x3_1 < 0) = false := decide_eq_false c6
          clear c6
          obtain rfl := Option.some.inj H
          go_wp2
          repeat (go_quiet (fail); try go_wp2)
          go_ret
          exact ⟨by first | rfl | (simp; done) | (simp [*]; done), by repeat (first | exact Drawn0.refl _ | apply Drawn0.step)⟩

/-! ### impl_restMod: function 108 -/
set_option maxHeartbeats 8000000 in
set_option maxRecDepth 100000 in
theorem impl_restMod.calls (a0 : Int) (a1 : Int) (r : Int) (w : World) (h : impl_restMod.f a0 a1 = some r) :
    Calls Try.prog 108 #[.int .i64 a0, .int .i64 a1] w fun e w' => e = .returned (.int .i64 r) ∧ Drawn0 w w' := by
  have H : (if a1 = 0 then (none) else (if (Int.tmod a0 a1) < 0 then (some (wrap64 ((Int.tmod a0 a1) + a1))) else (some (Int.tmod a0 a1)))) = some r := h
  clear h
  by_cases c3 : a1 = 0
  · rw [if_pos c3] at H
    exact absurd H (by simp)
  · rw [if_neg c3] at H
    have c3b0 : (a1 == 0) = false := beq_eq_false_iff_ne.mpr c3
    have c3b1 : (a1 != 0) = true := bne_iff_ne.mpr c3
    by_cases c4 : (Int.tmod a0 a1) < 0
    · rw [if_pos c4] at H
      have c4b0 : decide ((Int.tmod a0 a1) < 0) = true := decide_eq_true c4
      clear c4
      obtain rfl := Option.some.inj H
      go_enter Try.func108, Try.ntmps108
      go_wp2
      go_ret
      exact ⟨by first | rfl | (simp; done) | (simp [*]; done), by repeat (first | exact Drawn0.refl _ | apply Drawn0.step)⟩
    · rw [if_neg c4] at H
      have c4b0 : decide ((Int.tmod a0 a1) < 0) = false := decide_eq_false c4
      clear c4
      obtain rfl := Option.some.inj H
      go_enter Try.func108, Try.ntmps108
      go_wp2
      go_ret
      exact ⟨by first | rfl | (simp; done) | (simp [*]; done), by repeat (first | exact Drawn0.refl _ | apply Drawn0.step)⟩

/-! ### impl_restOf: function 106 -/
theorem impl_restOf.mono : ∀ a0 a1 k, LeO (impl_restOf.f k a0 a1) (impl_restOf.f (k + 1) a0 a1) := by
  intro a0 a1 k
  unfold impl_restOf.f
  repeat' first
      | (with_reducible exact impl_restGcd.mono _ _)
      | (with_reducible exact LeO.refl _)
      | (with_reducible exact LeO.none _)
      | (with_reducible refine LeO.ite ?_ ?_)
      | (with_reducible refine LeO.bind ?_ (fun _ => ?_))
      | exact impl_restGcd.mono _ _
      | exact LeO.none _
      | refine LeO.ite ?_ ?_
      | refine LeO.bind ?_ (fun _ => ?_)
set_option maxHeartbeats 8000000 in
set_option maxRecDepth 100000 in
theorem impl_restOf.calls (k : Nat) (a0 : Int) (a1 : Int) (r1 : Int) (r2 : Int) (w : World) (h : impl_restOf.f k a0 a1 = some (r1, r2)) :
    Calls Try.prog 106 #[.int .i64 a0, .int .i64 a1] w fun e w' => e = .returned (.agg #[.int .i64 r1, .int .i64 r2]) ∧ Below w.heap.size w w' := by
  have hu62 := Try.underlying62
  have HB := Aside0.mk (Below.refl w.heap.size w)
  have H : (if a1 > 65536 then ((impl_restGcd.f k (([a1, 65536] : List Int))).bind fun t227 => (if t227 = 0 then (some (0, a0)) else ((impl_restMod.f a0 t227).bind fun t228 => (some (t227, t228))))) else (if a1 = 0 then (some (0, a0)) else ((impl_restMod.f a0 a1).bind fun t229 => (some (a1, t229))))) = some (r1, r2) := h
  clear h
  by_cases c3 : a1 > 65536
  · rw [if_pos c3] at H
    have c3b0 : decide (65536 < a1) = true := decide_eq_true c3
    clear c3
    obtain ⟨y224, hy224⟩ : ∃ y_ : List Int, y_ = (([a1, 65536] : List Int)) := ⟨_, rfl⟩
    replace H : ((impl_restGcd.f k y224).bind fun t227 => (if t227 = 0 then (some (0, a0)) else ((impl_restMod.f a0 t227).bind fun t228 => (some (t227, t228))))) = some (r1, r2) := by first | (rw [hy224]; with_reducible exact H) | (have H2_ := (Option.bind_some _ _).symm.trans H; rw [hy224]; with_reducible exact H2_) | (have H2_ := (Option.bind_some _ _).symm.trans H; with_reducible exact H2_) | with_reducible exact H | (rw [hy224]; exact H) | exact H
    have Ny224 := Aside0.mk hy224
    clear hy224
    replace H := Option.bind_eq_some_iff.mp H
    obtain ⟨t227, A40, H⟩ := H
    replace H : (if t227 = 0 then (some (0, a0)) else ((impl_restMod.f a0 t227).bind fun t228 => (some (t227, t228)))) = some (r1, r2) := H
    have A4 := Aside0.mk A40
    clear A40
    by_cases c5 : t227 = 0
    · rw [if_pos c5] at H
      have c5b0 : (t227 == 0) = true := beq_iff_eq.mpr c5
      have c5b1 : (t227 != 0) = false := bne_eq_false_iff_eq.mpr c5
      clear c5
      simp only [Option.some.injEq, Prod.mk.injEq] at H
      obtain ⟨rfl, rfl⟩ := H
      go_enter Try.func106, Try.ntmps106
      go_wp2_with (first | ((with_reducible refine gate_dst (N := 4) rfl ?_); refine sqx 4 #[.int .i64 0, .int .i64 0] 62 ?_; intro gb223 hg w6 hbox hb; have BK223 := Aside0.mk (hbox); have GW223 := sqg HB hg; have GE223 := sqg HB hg; replace HB := sqs HB hb; clear hb hbox hg) | ((with_reducible refine gate_dst (N := 8) rfl ?_); refine Kd.R_lit (Kd.int .i64) _ 3 ?hg (N := 8) ?hd (xs := ([a1, 65536] : List Int)) (inner := [.int .i64 a1, .int .i64 65536]) (ok := fun _ => True) (okp := fun _ => True) ?hr ?hp (fun _ hk => hk) trivial (Below.refl _ _) (Nat.le_refl _) (by simp) ?_; (case hd => rfl); (case hg => rfl); (case hr => first | (go_simp; done) | (go_simp; rfl)); (case hp => exact (Reps.one (show Kd.M (Kd.int .i64) _ _ _ a1 [.int .i64 a1] from rfl) (Reps.one (show Kd.M (Kd.int .i64) _ _ _ 65536 [.int .i64 65536] from rfl) (Reps.none _ _)))); intro v225 w7 ho8 hb hg_ hnew_; clear hg_ hnew_; (first | rw [← Ny224.out] at ho8 | (simp only [Int.reduceToNat] at ho8; rw [← Ny224.out] at ho8)); have HO226 := Aside0.mk (Kd.R_lower ho8 (below_size (by repeat (first | (with_reducible first | exact HB.out | apply below_alloc | apply pw_below_drewN | apply below_drew1 | refine below_set ?_ GE223.out) | exact HB.out)))); replace BK223 := sqb BK223 hb; replace HB := sqs HB hb; clear hb ho8; obtain ⟨Ao9, co9, eo9⟩ := Kd.R_slice HO226.out; subst eo9) | ((with_reducible refine gate_callee (f := 107) rfl ?_); refine sqL (some 9) Try.func107 #[.slice Ao9 y224.length co9] ?_; (with_reducible refine (impl_restGcd.calls k _ _ y224 t227 _ ?side1 ?side2 A4.out).mono ?_); (case side1 => repeat (first | exact (Kd.R_reads' HO226.out).2.2 | (with_reducible refine Kd.C_alloc ?_ _) | (with_reducible refine Kd.C_drewN ?_ _) | (with_reducible refine Kd.C_drew ?_))); (case side2 => exact (Kd.R_reads' HO226.out).2.1); rintro e w' ⟨rfl, ⟨nd, rfl⟩⟩; refine ⟨_, rfl, ?_⟩; (try (rw [drewN_self w7]; generalize hq_ : World.drewN w7 _ = w7; have n0_ : Aside0 (Kd.R (Kd.int .i64) 3 w7 w.heap.size (fun _ => True) (.slice Ao9 y224.length co9) y224) := ⟨by rw [← hq_]; exact (by (with_reducible repeat (first | apply Kd.R_alloc | apply Kd.R_drewN | apply Kd.R_drew)); exact HO226.out)⟩; have n1_ : Aside0 (w7.heap[gb223]? = some (.cells #[.int .i64 0, .int .i64 0] 62 (0, 0))) := ⟨by rw [← hq_]; exact (by refine sqt ?_; exact BK223.out)⟩; have n2_ : Aside0 (Below w.heap.size w w7) := ⟨by rw [← hq_]; exact (by repeat (first | (with_reducible first | exact HB.out | apply below_alloc | apply pw_below_drewN | apply below_drew1 | refine below_set ?_ GE223.out) | exact HB.out))⟩; clear HO226 BK223 HB hq_; have HO226 := n0_; have BK223 := n1_; have HB := n2_; clear n0_ n1_ n2_)); obtain ⟨hcz10_0, hcz10_1, hfz10_0, hfz10_1⟩ := sqc2 BK223))
      refine bodyPost_ret (results_cell_row rfl _ _ gb223 62 #[.int .i64 0, .int .i64 a0] (0, 0) _ rfl (by refine sqt ?_; refine blk_put (cs := #[.int .i64 0, .int .i64 0]) ?_ 1 _ rfl; refine sqt ?_; refine blk_put (cs := #[.int .i64 0, .int .i64 0]) ?_ 0 _ rfl; refine sqt ?_; exact BK223.out) Try.underlying62 rfl (by kernel_rfl)) rfl ?_
      exact sqe HB
    · rw [if_neg c5] at H
      have c5b0 : (t227 == 0) = false := beq_eq_false_iff_ne.mpr c5
      have c5b1 : (t227 != 0) = true := bne_iff_ne.mpr c5
      replace H := Option.bind_eq_some_iff.mp H
      obtain ⟨t228, A110, H⟩ := H
      replace H : (some (t227, t228)) = some (r1, r2) := H
      have A11 := Aside0.mk A110
      clear A110
      simp only [Option.some.injEq, Prod.mk.injEq] at H
      obtain ⟨rfl, rfl⟩ := H
      go_enter Try.func106, Try.ntmps106
      go_wp2_with (first | ((with_reducible refine gate_dst (N := 4) rfl ?_); refine sqx 4 #[.int .i64 0, .int .i64 0] 62 ?_; intro gb223 hg w12 hbox hb; have BK223 := Aside0.mk (hbox); have GW223 := sqg HB hg; have GE223 := sqg HB hg; replace HB := sqs HB hb; clear hb hbox hg) | ((with_reducible refine gate_dst (N := 8) rfl ?_); refine Kd.R_lit (Kd.int .i64) _ 3 ?hg (N := 8) ?hd (xs := ([a1, 65536] : List Int)) (inner := [.int .i64 a1, .int .i64 65536]) (ok := fun _ => True) (okp := fun _ => True) ?hr ?hp (fun _ hk => hk) trivial (Below.refl _ _) (Nat.le_refl _) (by simp) ?_; (case hd => rfl); (case hg => rfl); (case hr => first | (go_simp; done) | (go_simp; rfl)); (case hp => exact (Reps.one (show Kd.M (Kd.int .i64) _ _ _ a1 [.int .i64 a1] from rfl) (Reps.one (show Kd.M (Kd.int .i64) _ _ _ 65536 [.int .i64 65536] from rfl) (Reps.none _ _)))); intro v225 w13 ho14 hb hg_ hnew_; clear hg_ hnew_; (first | rw [← Ny224.out] at ho14 | (simp only [Int.reduceToNat] at ho14; rw [← Ny224.out] at ho14)); have HO226 := Aside0.mk (Kd.R_lower ho14 (below_size (by repeat (first | (with_reducible first | exact HB.out | apply below_alloc | apply pw_below_drewN | apply below_drew1 | refine below_set ?_ GE223.out) | exact HB.out)))); replace BK223 := sqb BK223 hb; replace HB := sqs HB hb; clear hb ho14; obtain ⟨Ao15, co15, eo15⟩ := Kd.R_slice HO226.out; subst eo15) | ((with_reducible refine gate_callee (f := 107) rfl ?_); refine sqL (some 9) Try.func107 #[.slice Ao15 y224.length co15] ?_; (with_reducible refine (impl_restGcd.calls k _ _ y224 t227 _ ?side1 ?side2 A4.out).mono ?_); (case side1 => repeat (first | exact (Kd.R_reads' HO226.out).2.2 | (with_reducible refine Kd.C_alloc ?_ _) | (with_reducible refine Kd.C_drewN ?_ _) | (with_reducible refine Kd.C_drew ?_))); (case side2 => exact (Kd.R_reads' HO226.out).2.1); rintro e w' ⟨rfl, ⟨nd, rfl⟩⟩; refine ⟨_, rfl, ?_⟩; (try (rw [drewN_self w13]; generalize hq_ : World.drewN w13 _ = w13; have n0_ : Aside0 (Kd.R (Kd.int .i64) 3 w13 w.heap.size (fun _ => True) (.slice Ao15 y224.length co15) y224) := ⟨by rw [← hq_]; exact (by (with_reducible repeat (first | apply Kd.R_alloc | apply Kd.R_drewN | apply Kd.R_drew)); exact HO226.out)⟩; have n1_ : Aside0 (w13.heap[gb223]? = some (.cells #[.int .i64 0, .int .i64 0] 62 (0, 0))) := ⟨by rw [← hq_]; exact (by refine sqt ?_; exact BK223.out)⟩; have n2_ : Aside0 (Below w.heap.size w w13) := ⟨by rw [← hq_]; exact (by repeat (first | (with_reducible first | exact HB.out | apply below_alloc | apply pw_below_drewN | apply below_drew1 | refine below_set ?_ GE223.out) | exact HB.out))⟩; clear HO226 BK223 HB hq_; have HO226 := n0_; have BK223 := n1_; have HB := n2_; clear n0_ n1_ n2_))) | ((with_reducible refine gate_callee (f := 108) rfl ?_); refine sqL (some 17) Try.func108 #[.int .i64 a0, .int .i64 t227] ?_; (with_reducible refine (impl_restMod.calls a0 t227 t228 _ A11.out).mono ?_); rintro e w' ⟨rfl, ⟨nd, rfl⟩⟩; refine ⟨_, rfl, ?_⟩; (try (rw [drewN_self w13]; generalize hq_ : World.drewN w13 _ = w13; have n0_ : Aside0 (Kd.R (Kd.int .i64) 3 w13 w.heap.size (fun _ => True) (.slice Ao15 y224.length co15) y224) := ⟨by rw [← hq_]; exact (by (with_reducible repeat (first | apply Kd.R_alloc | apply Kd.R_drewN | apply Kd.R_drew)); exact HO226.out)⟩; have n1_ : Aside0 (w13.heap[gb223]? = some (.cells #[.int .i64 0, .int .i64 0] 62 (0, 0))) := ⟨by rw [← hq_]; exact (by refine sqt ?_; exact BK223.out)⟩; have n2_ : Aside0 (Below w.heap.size w w13) := ⟨by rw [← hq_]; exact (by repeat (first | (with_reducible first | exact HB.out | apply below_alloc | apply pw_below_drewN | apply below_drew1 | refine below_set ?_ GE223.out) | exact HB.out))⟩; clear HO226 BK223 HB hq_; have HO226 := n0_; have BK223 := n1_; have HB := n2_; clear n0_ n1_ n2_)); obtain ⟨hcz16_0, hcz16_1, hfz16_0, hfz16_1⟩ := sqc2 BK223))
      refine bodyPost_ret (results_cell_row rfl _ _ gb223 62 #[.int .i64 t227, .int .i64 t228] (0, 0) _ rfl (by refine sqt ?_; refine blk_put (cs := #[.int .i64 t227, .int .i64 0]) ?_ 1 _ rfl; refine sqt ?_; refine blk_put (cs := #[.int .i64 0, .int .i64 0]) ?_ 0 _ rfl; refine sqt ?_; exact BK223.out) Try.underlying62 rfl (by kernel_rfl)) rfl ?_
      exact sqe HB
  · rw [if_neg c3] at H
    have c3b0 : decide (65536 < a1) = false := decide_eq_false c3
    clear c3
    by_cases c17 : a1 = 0
    · rw [if_pos c17] at H
      have c17b0 : (a1 == 0) = true := beq_iff_eq.mpr c17
      have c17b1 : (a1 != 0) = false := bne_eq_false_iff_eq.mpr c17
      clear c17
      simp only [Option.some.injEq, Prod.mk.injEq] at H
      obtain ⟨rfl, rfl⟩ := H
      go_enter Try.func106, Try.ntmps106
      go_wp2_with (first | ((with_reducible refine gate_dst (N := 4) rfl ?_); refine sqx 4 #[.int .i64 0, .int .i64 0] 62 ?_; intro gb223 hg w18 hbox hb; have BK223 := Aside0.mk (hbox); have GW223 := sqg HB hg; have GE223 := sqg HB hg; replace HB := sqs HB hb; clear hb hbox hg; obtain ⟨hcz19_0, hcz19_1, hfz19_0, hfz19_1⟩ := sqc2 BK223))
      refine bodyPost_ret (results_cell_row rfl _ _ gb223 62 #[.int .i64 0, .int .i64 a0] (0, 0) _ rfl (by refine sqt ?_; refine blk_put (cs := #[.int .i64 0, .int .i64 0]) ?_ 1 _ rfl; refine sqt ?_; refine blk_put (cs := #[.int .i64 0, .int .i64 0]) ?_ 0 _ rfl; refine sqt ?_; exact BK223.out) Try.underlying62 rfl (by kernel_rfl)) rfl ?_
      exact sqe HB
    · rw [if_neg c17] at H
      have c17b0 : (a1 == 0) = false := beq_eq_false_iff_ne.mpr c17
      have c17b1 : (a1 != 0) = true := bne_iff_ne.mpr c17
      replace H := Option.bind_eq_some_iff.mp H
      obtain ⟨t229, A200, H⟩ := H
      replace H : (some (a1, t229)) = some (r1, r2) := H
      have A20 := Aside0.mk A200
      clear A200
      simp only [Option.some.injEq, Prod.mk.injEq] at H
      obtain ⟨rfl, rfl⟩ := H
      go_enter Try.func106, Try.ntmps106
      go_wp2_with (first | ((with_reducible refine gate_dst (N := 4) rfl ?_); refine sqx 4 #[.int .i64 0, .int .i64 0] 62 ?_; intro gb223 hg w21 hbox hb; have BK223 := Aside0.mk (hbox); have GW223 := sqg HB hg; have GE223 := sqg HB hg; replace HB := sqs HB hb; clear hb hbox hg) | ((with_reducible refine gate_callee (f := 108) rfl ?_); refine sqL (some 17) Try.func108 #[.int .i64 a0, .int .i64 a1] ?_; (with_reducible refine (impl_restMod.calls a0 a1 t229 _ A20.out).mono ?_); rintro e w' ⟨rfl, ⟨nd, rfl⟩⟩; refine ⟨_, rfl, ?_⟩; (try (rw [drewN_self w21]; generalize hq_ : World.drewN w21 _ = w21; replace BK223 := sqq BK223 hq_; replace HB := sqr HB hq_; clear hq_; obtain ⟨hqz1_0, hqz1_1, hqf1_0, hqf1_1⟩ := sqc2 BK223)); obtain ⟨hcz22_0, hcz22_1, hfz22_0, hfz22_1⟩ := sqc2 BK223))
      refine bodyPost_ret (results_cell_row rfl _ _ gb223 62 #[.int .i64 a1, .int .i64 t229] (0, 0) _ rfl (by refine sqt ?_; refine blk_put (cs := #[.int .i64 a1, .int .i64 0]) ?_ 1 _ rfl; refine sqt ?_; refine blk_put (cs := #[.int .i64 0, .int .i64 0]) ?_ 0 _ rfl; refine sqt ?_; exact BK223.out) Try.underlying62 rfl (by kernel_rfl)) rfl ?_
      exact sqe HB

end Go.Proofs.Ytmdcgkkkfncieaa.PFnRestLattice
