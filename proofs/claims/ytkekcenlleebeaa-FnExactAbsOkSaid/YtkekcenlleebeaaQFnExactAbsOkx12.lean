/- Functions of the program as plain Lean functions, and that calls of them come to what these tell. Conditions: those in each law. -/
import Derived.Test.YtkekcenlleebeaaSq
import Derived.Test.YtkekcenlleebeaaDFnExactAbsOk
import Derived.Test.YtkekcenlleebeaaQFnExactAbsOkx0
import Derived.Test.YtkekcenlleebeaaQFnExactAbsOkx1
import Derived.Test.YtkekcenlleebeaaQFnExactAbsOkx11
namespace Go.Proofs.Ytkekcenlleebeaa.PFnExactAbsOk
open Go.RowKit Go.Proofs.Ytkekcenlleebeaa.Sq Go.Proofs.YtkekcenlleebeaaW.PrintWords Go.Proofs.YtkekcenlleebeaaW.PrintLast Go.Proofs.YtkekcenlleebeaaW.PrintMore
attribute [local go_sem] max2_int min2_int max_two min_two max_three min_three max_four min_four   -- for this text's walks alone
set_option linter.unusedVariables false
set_option linter.unusedSimpArgs false

attribute [local go_sem high] eqA24
/-! ### laws_toAbs: function 59 -/
theorem laws_toAbs.mono : ∀ a0 a1 a2 a3 a4 a5 k, LeO (laws_toAbs.f k a0 a1 a2 a3 a4 a5) (laws_toAbs.f (k + 1) a0 a1 a2 a3 a4 a5) := by
 intro a0 a1 a2 a3 a4 a5 k
 unfold laws_toAbs.f
 repeat' first
   | (with_reducible exact laws_toGaps.mono _ _ _)
   | (with_reducible exact laws_toRefValS.mono _ _)
   | (with_reducible exact laws_toValS.mono _ _)
   | (with_reducible exact LeO.refl _)
   | (with_reducible exact LeO.none _)
   | (with_reducible refine LeO.ite ?_ ?_)
   | (with_reducible refine LeO.bind ?_ (fun _ => ?_))
   | exact laws_toGaps.mono _ _ _
   | exact laws_toRefValS.mono _ _
   | exact laws_toValS.mono _ _
   | exact LeO.none _
   | refine LeO.ite ?_ ?_
   | refine LeO.bind ?_ (fun _ => ?_)
set_option maxHeartbeats 8000000 in
set_option maxRecDepth 100000 in
theorem laws_toAbs.calls (k : Nat) (a0_0 : Bool) (A0_1 : Option Addr) (c0_1 : Nat) (l0_1 : List (S165)) (A0_2 : Option Addr) (c0_2 : Nat) (l0_2 : List (S167)) (A0_3 : Option Addr) (c0_3 : Nat) (l0_3 : List (S165)) (a0_4 : Int) (A0_5 : Option Addr) (c0_5 : Nat) (l0_5 : List Int) (r1 : Bool) (r2 : List (S30)) (r3 : List (S132)) (r4 : List (S30)) (r5 : Int) (r6 : List Int) (w : World) (hr0_1 : Kd.C k165 w A0_1 l0_1.length l0_1) (hc0_1 : l0_1.length ≤ c0_1) (hr0_2 : Kd.C k167 w A0_2 l0_2.length l0_2) (hc0_2 : l0_2.length ≤ c0_2) (hr0_3 : Kd.C k165 w A0_3 l0_3.length l0_3) (hc0_3 : l0_3.length ≤ c0_3) (hr0_5 : Kd.C (Kd.int .i64) w A0_5 l0_5.length l0_5) (hc0_5 : l0_5.length ≤ c0_5) (h : laws_toAbs.f k a0_0 l0_1 l0_2 l0_3 a0_4 l0_5 = some (r1, r2, r3, r4, r5, r6)) :
  Calls Try.prog 59 #[.agg #[.bool a0_0, .slice A0_1 l0_1.length c0_1, .slice A0_2 l0_2.length c0_2, .slice A0_3 l0_3.length c0_3, .int .i64 a0_4, .slice A0_5 l0_5.length c0_5]] w fun e w' => ∃ v1_ v2_ v3_ v5_ : Value, e = .returned (.agg #[.bool r1, v1_, v2_, v3_, .int .i64 r5, v5_]) ∧ Kd.R k30 30 w' w.heap.size (fun k_ => some k_ ≠ (v3_ : Value).ownBlock) v1_ r2 ∧ Kd.S k132 132 w' w.heap.size (fun k_ => some k_ ≠ (v5_ : Value).ownBlock) v2_ r3 ∧ Kd.R k30 30 w' w.heap.size (fun k_ => some k_ ≠ (v1_ : Value).ownBlock) v3_ r4 ∧ Kd.R (Kd.int .i64) 3 w' w.heap.size (fun _ => True) v5_ r6 ∧ Below w.heap.size w w' := by
 have hu72 := Try.underlying72
 have hu78 := Try.underlying78
 have hu70 := Try.underlying70
 have hu41 := Try.underlying41
 have HR0_1 := Aside0.mk hr0_1
 have HC0_1 := Aside0.mk hc0_1
 clear hr0_1 hc0_1
 have HR0_2 := Aside0.mk hr0_2
 have HC0_2 := Aside0.mk hc0_2
 clear hr0_2 hc0_2
 have HR0_3 := Aside0.mk hr0_3
 have HC0_3 := Aside0.mk hc0_3
 clear hr0_3 hc0_3
 have HR0_5 := Aside0.mk hr0_5
 have HC0_5 := Aside0.mk hc0_5
 clear hr0_5 hc0_5
 have HB := Aside0.mk (Below.refl w.heap.size w)
 have H : ((laws_toValS.f k l0_1).bind fun t258 => ((laws_toRefValS.f k l0_2).bind fun t261 => ((laws_toValS.f k l0_3).bind fun t264 => ((laws_toGaps.f k a0_4 l0_5).bind fun bt267 => (some (a0_0, t258, t261, t264, bt267.1, bt267.2)))))) = some (r1, r2, r3, r4, r5, r6) := h
 clear h
 replace H := Option.bind_eq_some_iff.mp H
 obtain ⟨t258, A20, H⟩ := H
 replace H : ((laws_toRefValS.f k l0_2).bind fun t261 => ((laws_toValS.f k l0_3).bind fun t264 => ((laws_toGaps.f k a0_4 l0_5).bind fun bt267 => (some (a0_0, t258, t261, t264, bt267.1, bt267.2))))) = some (r1, r2, r3, r4, r5, r6) := H
 have A2 := Aside0.mk A20
 clear A20
 replace H := Option.bind_eq_some_iff.mp H
 obtain ⟨t261, A30, H⟩ := H
 replace H : ((laws_toValS.f k l0_3).bind fun t264 => ((laws_toGaps.f k a0_4 l0_5).bind fun bt267 => (some (a0_0, t258, t261, t264, bt267.1, bt267.2)))) = some (r1, r2, r3, r4, r5, r6) := H
 have A3 := Aside0.mk A30
 clear A30
 replace H := Option.bind_eq_some_iff.mp H
 obtain ⟨t264, A40, H⟩ := H
 replace H : ((laws_toGaps.f k a0_4 l0_5).bind fun bt267 => (some (a0_0, t258, t261, t264, bt267.1, bt267.2))) = some (r1, r2, r3, r4, r5, r6) := H
 have A4 := Aside0.mk A40
 clear A40
 replace H := Option.bind_eq_some_iff.mp H
 obtain ⟨⟨t267, t268⟩, A50, H⟩ := H
 replace H : (some (a0_0, t258, t261, t264, t267, t268)) = some (r1, r2, r3, r4, r5, r6) := H
 have A5 := Aside0.mk A50
 clear A50
 simp only [Option.some.injEq, Prod.mk.injEq] at H
 obtain ⟨rfl, rfl, rfl, rfl, rfl, rfl⟩ := H
 go_enter Try.func59, Try.ntmps59
 go_wp2_with (first | ((with_reducible refine gate_dst (N := 1) rfl ?_); refine sqx 1 #[.bool a0_0, .slice A0_1 l0_1.length c0_1, .slice A0_2 l0_2.length c0_2, .slice A0_3 l0_3.length c0_3, .int .i64 a0_4, .slice A0_5 l0_5.length c0_5] 72 ?_; intro gb255 hg w6 hbox hb; have BK255 := Aside0.mk (hbox); have GW255 := sqg HB hg; have GE255 := sqg HB hg; replace HB := sqs HB hb; clear hb hbox hg) | ((with_reducible refine gate_dst (N := 2) rfl ?_); refine sqx 2 #[.bool false, .slice none 0 0, .slice none 0 0, .slice none 0 0, .int .i64 0, .slice none 0 0] 78 ?_; intro gb256 hg w7 hbox hb; have BK256 := Aside0.mk (hbox); have GW256 := sqg HB hg; have GE256 := sqg HB hg; have NB255_256 := sqn BK255 hg; have NB256_255 := sqm BK255 hg; replace BK255 := sqb BK255 hb; replace HB := sqs HB hb; clear hb hbox hg) | ((with_reducible refine gate_dst (N := 3) rfl ?_); refine sqx 3 #[.bool false, .slice none 0 0, .slice none 0 0, .slice none 0 0, .int .i64 0, .slice none 0 0] 78 ?_; intro gb257 hg w8 hbox hb; have BK257 := Aside0.mk (hbox); have GW257 := sqg HB hg; have GE257 := sqg HB hg; have NB255_257 := sqn BK255 hg; have NB257_255 := sqm BK255 hg; have NB256_257 := sqn BK256 hg; have NB257_256 := sqm BK256 hg; replace BK255 := sqb BK255 hb; replace BK256 := sqb BK256 hb; replace HB := sqs HB hb; clear hb hbox hg; have hnb9 := NB255_256.out; have hnc9 := NB256_255.out; have hnb10 := NB255_257.out; have hnc10 := NB257_255.out; have hcz11_0 : w8.cell? ⟨gb255, 0, none⟩ = some (.bool a0_0) := (blk_cell BK255.out 0).trans rfl; have hcz11_1 : w8.cell? ⟨gb255, 1, none⟩ = some (.slice A0_1 l0_1.length c0_1) := (blk_cell BK255.out 1).trans rfl; have hcz11_2 : w8.cell? ⟨gb255, 2, none⟩ = some (.slice A0_2 l0_2.length c0_2) := (blk_cell BK255.out 2).trans rfl; have hcz11_3 : w8.cell? ⟨gb255, 3, none⟩ = some (.slice A0_3 l0_3.length c0_3) := (blk_cell BK255.out 3).trans rfl; have hcz11_4 : w8.cell? ⟨gb255, 4, none⟩ = some (.int .i64 a0_4) := (blk_cell BK255.out 4).trans rfl; have hcz11_5 : w8.cell? ⟨gb255, 5, none⟩ = some (.slice A0_5 l0_5.length c0_5) := (blk_cell BK255.out 5).trans rfl; have hfz11_0 := blk_frozen BK255.out 0; have hfz11_1 := blk_frozen BK255.out 1; have hfz11_2 := blk_frozen BK255.out 2; have hfz11_3 := blk_frozen BK255.out 3; have hfz11_4 := blk_frozen BK255.out 4; have hfz11_5 := blk_frozen BK255.out 5; have hnb12 := NB257_256.out; have hnc12 := NB256_257.out; have hcz13_0 : w8.cell? ⟨gb257, 0, none⟩ = some (.bool false) := (blk_cell BK257.out 0).trans rfl; have hcz13_1 : w8.cell? ⟨gb257, 1, none⟩ = some (.slice none 0 0) := (blk_cell BK257.out 1).trans rfl; have hcz13_2 : w8.cell? ⟨gb257, 2, none⟩ = some (.slice none 0 0) := (blk_cell BK257.out 2).trans rfl; have hcz13_3 : w8.cell? ⟨gb257, 3, none⟩ = some (.slice none 0 0) := (blk_cell BK257.out 3).trans rfl; have hcz13_4 : w8.cell? ⟨gb257, 4, none⟩ = some (.int .i64 0) := (blk_cell BK257.out 4).trans rfl; have hcz13_5 : w8.cell? ⟨gb257, 5, none⟩ = some (.slice none 0 0) := (blk_cell BK257.out 5).trans rfl; have hfz13_0 := blk_frozen BK257.out 0; have hfz13_1 := blk_frozen BK257.out 1; have hfz13_2 := blk_frozen BK257.out 2; have hfz13_3 := blk_frozen BK257.out 3; have hfz13_4 := blk_frozen BK257.out 4; have hfz13_5 := blk_frozen BK257.out 5) | ((with_reducible refine gate_callee (f := 141) rfl ?_); refine sqL (some 9) Try.func141 #[.slice A0_1 l0_1.length c0_1] ?_; (with_reducible refine (laws_toValS.calls k _ _ l0_1 t258 _ ?side1 ?side2 A2.out).mono ?_); (case side1 => exact Kd.C_below HR0_1.out (by repeat (first | (with_reducible first | exact HB.out | apply below_alloc | apply pw_below_drewN | apply below_drew1 | refine below_set ?_ GE255.out | refine below_set ?_ GE256.out | refine below_set ?_ GE257.out) | exact HB.out))); (case side2 => exact HC0_1.out); rintro e w14 ⟨v259, rfl, ho0, hb⟩; refine ⟨_, rfl, ?_⟩; have n0_ := Aside0.mk (Kd.R_lower ho0 (below_size (by repeat (first | (with_reducible first | exact HB.out | apply below_alloc | apply pw_below_drewN | apply below_drew1 | refine below_set ?_ GE255.out | refine below_set ?_ GE256.out | refine below_set ?_ GE257.out) | exact HB.out)))); have n1_ := Aside0.mk (blk_below (g := gb255) (o := .cells #[.bool a0_0, .slice A0_1 l0_1.length c0_1, .slice A0_2 l0_2.length c0_2, .slice A0_3 l0_3.length c0_3, .int .i64 a0_4, .slice A0_5 l0_5.length c0_5] 72 (0, 0)) (by refine sqt ?_; refine blk_far ?_ NB255_257.out _; refine sqt ?_; exact BK255.out) hb); have n2_ := Aside0.mk (blk_below (g := gb256) (o := .cells #[.bool false, .slice none 0 0, .slice none 0 0, .slice none 0 0, .int .i64 0, .slice none 0 0] 78 (0, 0)) (by refine sqt ?_; refine blk_far ?_ NB256_257.out _; refine sqt ?_; exact BK256.out) hb); have n3_ := Aside0.mk (blk_below (g := gb257) (o := .cells #[.bool a0_0, .slice none 0 0, .slice none 0 0, .slice none 0 0, .int .i64 0, .slice none 0 0] 78 (0, 0)) (by refine sqt ?_; refine blk_put (cs := #[.bool false, .slice none 0 0, .slice none 0 0, .slice none 0 0, .int .i64 0, .slice none 0 0]) ?_ 0 _ rfl; refine sqt ?_; exact BK257.out) hb); have n4_ := sqs HB hb; clear BK255; clear BK256; clear BK257; clear HB; have HO260 := n0_; have BK255 := n1_; have BK256 := n2_; have BK257 := n3_; have HB := n4_; clear n0_ n1_ n2_ n3_ n4_; (try clear hb); (try clear hb2); (try clear hk); (try clear hi); (try clear ho0); obtain ⟨Ao15, co15, eo15⟩ := Kd.R_slice HO260.out; subst eo15; have hcz16_0 : w14.cell? ⟨gb257, 0, none⟩ = some (.bool a0_0) := (blk_cell BK257.out 0).trans rfl; have hcz16_1 : w14.cell? ⟨gb257, 1, none⟩ = some (.slice none 0 0) := (blk_cell BK257.out 1).trans rfl; have hcz16_2 : w14.cell? ⟨gb257, 2, none⟩ = some (.slice none 0 0) := (blk_cell BK257.out 2).trans rfl; have hcz16_3 : w14.cell? ⟨gb257, 3, none⟩ = some (.slice none 0 0) := (blk_cell BK257.out 3).trans rfl; have hcz16_4 : w14.cell? ⟨gb257, 4, none⟩ = some (.int .i64 0) := (blk_cell BK257.out 4).trans rfl; have hcz16_5 : w14.cell? ⟨gb257, 5, none⟩ = some (.slice none 0 0) := (blk_cell BK257.out 5).trans rfl; have hfz16_0 := blk_frozen BK257.out 0; have hfz16_1 := blk_frozen BK257.out 1; have hfz16_2 := blk_frozen BK257.out 2; have hfz16_3 := blk_frozen BK257.out 3; have hfz16_4 := blk_frozen BK257.out 4; have hfz16_5 := blk_frozen BK257.out 5; have hcz17_0 : w14.cell? ⟨gb255, 0, none⟩ = some (.bool a0_0) := (blk_cell BK255.out 0).trans rfl; have hcz17_1 : w14.cell? ⟨gb255, 1, none⟩ = some (.slice A0_1 l0_1.length c0_1) := (blk_cell BK255.out 1).trans rfl; have hcz17_2 : w14.cell? ⟨gb255, 2, none⟩ = some (.slice A0_2 l0_2.length c0_2) := (blk_cell BK255.out 2).trans rfl; have hcz17_3 : w14.cell? ⟨gb255, 3, none⟩ = some (.slice A0_3 l0_3.length c0_3) := (blk_cell BK255.out 3).trans rfl; have hcz17_4 : w14.cell? ⟨gb255, 4, none⟩ = some (.int .i64 a0_4) := (blk_cell BK255.out 4).trans rfl; have hcz17_5 : w14.cell? ⟨gb255, 5, none⟩ = some (.slice A0_5 l0_5.length c0_5) := (blk_cell BK255.out 5).trans rfl; have hfz17_0 := blk_frozen BK255.out 0; have hfz17_1 := blk_frozen BK255.out 1; have hfz17_2 := blk_frozen BK255.out 2; have hfz17_3 := blk_frozen BK255.out 3; have hfz17_4 := blk_frozen BK255.out 4; have hfz17_5 := blk_frozen BK255.out 5) | ((with_reducible refine gate_callee (f := 142) rfl ?_); refine sqL (some 13) Try.func142 #[.slice A0_2 l0_2.length c0_2] ?_; (with_reducible refine (laws_toRefValS.calls k _ _ l0_2 t261 _ ?side1 ?side2 A3.out).mono ?_); (case side1 => exact Kd.C_below HR0_2.out (by repeat (first | (with_reducible first | exact HB.out | apply below_alloc | apply pw_below_drewN | apply below_drew1 | refine below_set ?_ GE255.out | refine below_set ?_ GE256.out | refine below_set ?_ GE257.out) | exact HB.out))); (case side2 => exact HC0_2.out); rintro e w18 ⟨v262, rfl, ho0, hb⟩; refine ⟨_, rfl, ?_⟩; have n0_ := Aside0.mk (Kd.R_below (by (with_reducible repeat (first | apply Kd.R_alloc | apply Kd.R_drewN | apply Kd.R_drew)); exact (Kd.R_mono (Kd.R_far (p := ⟨gb257, 1, none⟩) (Kd.R_types HO260.out BK257.out (by decide)) (fun _ hk => hk.2) (.slice Ao15 t258.length co15)) (fun _ h_ => h_.1))) hb); have n1_ := Aside0.mk (Kd.S_lower ho0 (below_size (by repeat (first | (with_reducible first | exact HB.out | apply below_alloc | apply pw_below_drewN | apply below_drew1 | refine below_set ?_ GE255.out | refine below_set ?_ GE256.out | refine below_set ?_ GE257.out) | exact HB.out)))); have n2_ := Aside0.mk (blk_below (g := gb255) (o := .cells #[.bool a0_0, .slice A0_1 l0_1.length c0_1, .slice A0_2 l0_2.length c0_2, .slice A0_3 l0_3.length c0_3, .int .i64 a0_4, .slice A0_5 l0_5.length c0_5] 72 (0, 0)) (by refine sqt ?_; refine blk_far ?_ NB255_257.out _; refine sqt ?_; exact BK255.out) hb); have n3_ := Aside0.mk (blk_below (g := gb256) (o := .cells #[.bool false, .slice none 0 0, .slice none 0 0, .slice none 0 0, .int .i64 0, .slice none 0 0] 78 (0, 0)) (by refine sqt ?_; refine blk_far ?_ NB256_257.out _; refine sqt ?_; exact BK256.out) hb); have n4_ := Aside0.mk (blk_below (g := gb257) (o := .cells #[.bool a0_0, .slice Ao15 t258.length co15, .slice none 0 0, .slice none 0 0, .int .i64 0, .slice none 0 0] 78 (0, 0)) (by refine sqt ?_; refine blk_put (cs := #[.bool a0_0, .slice none 0 0, .slice none 0 0, .slice none 0 0, .int .i64 0, .slice none 0 0]) ?_ 1 _ rfl; refine sqt ?_; exact BK257.out) hb); have n5_ := sqs HB hb; clear HO260; clear BK255; clear BK256; clear BK257; clear HB; have HO260 := n0_; have HO263 := n1_; have BK255 := n2_; have BK256 := n3_; have BK257 := n4_; have HB := n5_; clear n0_ n1_ n2_ n3_ n4_ n5_; (try clear hb); (try clear hb2); (try clear hk); (try clear hi); (try clear ho0); obtain ⟨Ao19, co19, eo19⟩ := Kd.S_slice HO263.out; subst eo19; have hcz20_0 : w18.cell? ⟨gb257, 0, none⟩ = some (.bool a0_0) := (blk_cell BK257.out 0).trans rfl; have hcz20_1 : w18.cell? ⟨gb257, 1, none⟩ = some (.slice Ao15 t258.length co15) := (blk_cell BK257.out 1).trans rfl; have hcz20_2 : w18.cell? ⟨gb257, 2, none⟩ = some (.slice none 0 0) := (blk_cell BK257.out 2).trans rfl; have hcz20_3 : w18.cell? ⟨gb257, 3, none⟩ = some (.slice none 0 0) := (blk_cell BK257.out 3).trans rfl; have hcz20_4 : w18.cell? ⟨gb257, 4, none⟩ = some (.int .i64 0) := (blk_cell BK257.out 4).trans rfl; have hcz20_5 : w18.cell? ⟨gb257, 5, none⟩ = some (.slice none 0 0) := (blk_cell BK257.out 5).trans rfl; have hfz20_0 := blk_frozen BK257.out 0; have hfz20_1 := blk_frozen BK257.out 1; have hfz20_2 := blk_frozen BK257.out 2; have hfz20_3 := blk_frozen BK257.out 3; have hfz20_4 := blk_frozen BK257.out 4; have hfz20_5 := blk_frozen BK257.out 5; have hcz21_0 : w18.cell? ⟨gb255, 0, none⟩ = some (.bool a0_0) := (blk_cell BK255.out 0).trans rfl; have hcz21_1 : w18.cell? ⟨gb255, 1, none⟩ = some (.slice A0_1 l0_1.length c0_1) := (blk_cell BK255.out 1).trans rfl; have hcz21_2 : w18.cell? ⟨gb255, 2, none⟩ = some (.slice A0_2 l0_2.length c0_2) := (blk_cell BK255.out 2).trans rfl; have hcz21_3 : w18.cell? ⟨gb255, 3, none⟩ = some (.slice A0_3 l0_3.length c0_3) := (blk_cell BK255.out 3).trans rfl; have hcz21_4 : w18.cell? ⟨gb255, 4, none⟩ = some (.int .i64 a0_4) := (blk_cell BK255.out 4).trans rfl; have hcz21_5 : w18.cell? ⟨gb255, 5, none⟩ = some (.slice A0_5 l0_5.length c0_5) := (blk_cell BK255.out 5).trans rfl; have hfz21_0 := blk_frozen BK255.out 0; have hfz21_1 := blk_frozen BK255.out 1; have hfz21_2 := blk_frozen BK255.out 2; have hfz21_3 := blk_frozen BK255.out 3; have hfz21_4 := blk_frozen BK255.out 4; have hfz21_5 := blk_frozen BK255.out 5) | ((with_reducible refine gate_callee (f := 141) rfl ?_); refine sqL (some 17) Try.func141 #[.slice A0_3 l0_3.length c0_3] ?_; (with_reducible refine (laws_toValS.calls k _ _ l0_3 t264 _ ?side1 ?side2 A4.out).mono ?_); (case side1 => exact Kd.C_below HR0_3.out (by repeat (first | (with_reducible first | exact HB.out | apply below_alloc | apply pw_below_drewN | apply below_drew1 | refine below_set ?_ GE255.out | refine below_set ?_ GE256.out | refine below_set ?_ GE257.out) | exact HB.out))); (case side2 => exact HC0_3.out); rintro e w22 ⟨v265, rfl, ho0, hb⟩; refine ⟨_, rfl, ?_⟩; have n0_ := Aside0.mk (Kd.R_elder' (by (with_reducible repeat (first | apply Kd.R_alloc | apply Kd.R_drewN | apply Kd.R_drew)); exact (Kd.R_mono (Kd.R_far (p := ⟨gb257, 2, none⟩) (Kd.R_types HO260.out BK257.out (by decide)) (fun _ hk => hk.2) (.slice Ao19 t261.length co19)) (fun _ h_ => h_.1))) (Kd.R_base ho0) hb); have n1_ := Aside0.mk (Kd.S_below (by (with_reducible repeat (first | apply Kd.S_alloc | apply Kd.S_drewN | apply Kd.S_drew)); exact (Kd.S_mono (Kd.S_far (p := ⟨gb257, 2, none⟩) (Kd.S_types HO263.out BK257.out (by decide)) (fun _ hk => hk.2) (.slice Ao19 t261.length co19)) (fun _ h_ => h_.1))) hb); have n2_ := Aside0.mk (Kd.R_lower (Kd.R_new' ho0 (Kd.R_lt (by (with_reducible repeat (first | apply Kd.R_alloc | apply Kd.R_drewN | apply Kd.R_drew)); exact (Kd.R_mono (Kd.R_far (p := ⟨gb257, 2, none⟩) (Kd.R_types HO260.out BK257.out (by decide)) (fun _ hk => hk.2) (.slice Ao19 t261.length co19)) (fun _ h_ => h_.1))))) (below_size (by repeat (first | (with_reducible first | exact HB.out | apply below_alloc | apply pw_below_drewN | apply below_drew1 | refine below_set ?_ GE255.out | refine below_set ?_ GE256.out | refine below_set ?_ GE257.out) | exact HB.out)))); have n3_ := Aside0.mk (blk_below (g := gb255) (o := .cells #[.bool a0_0, .slice A0_1 l0_1.length c0_1, .slice A0_2 l0_2.length c0_2, .slice A0_3 l0_3.length c0_3, .int .i64 a0_4, .slice A0_5 l0_5.length c0_5] 72 (0, 0)) (by refine sqt ?_; refine blk_far ?_ NB255_257.out _; refine sqt ?_; exact BK255.out) hb); have n4_ := Aside0.mk (blk_below (g := gb256) (o := .cells #[.bool false, .slice none 0 0, .slice none 0 0, .slice none 0 0, .int .i64 0, .slice none 0 0] 78 (0, 0)) (by refine sqt ?_; refine blk_far ?_ NB256_257.out _; refine sqt ?_; exact BK256.out) hb); have n5_ := Aside0.mk (blk_below (g := gb257) (o := .cells #[.bool a0_0, .slice Ao15 t258.length co15, .slice Ao19 t261.length co19, .slice none 0 0, .int .i64 0, .slice none 0 0] 78 (0, 0)) (by refine sqt ?_; refine blk_put (cs := #[.bool a0_0, .slice Ao15 t258.length co15, .slice none 0 0, .slice none 0 0, .int .i64 0, .slice none 0 0]) ?_ 2 _ rfl; refine sqt ?_; exact BK257.out) hb); have n6_ := sqs HB hb; clear HO260; clear HO263; clear BK255; clear BK256; clear BK257; clear HB; have HO260 := n0_; have HO263 := n1_; have HO266 := n2_; have BK255 := n3_; have BK256 := n4_; have BK257 := n5_; have HB := n6_; clear n0_ n1_ n2_ n3_ n4_ n5_ n6_; (try clear hb); (try clear hb2); (try clear hk); (try clear hi); (try clear ho0); obtain ⟨Ao23, co23, eo23⟩ := Kd.R_slice HO266.out; subst eo23; have hcz24_0 : w22.cell? ⟨gb257, 0, none⟩ = some (.bool a0_0) := (blk_cell BK257.out 0).trans rfl; have hcz24_1 : w22.cell? ⟨gb257, 1, none⟩ = some (.slice Ao15 t258.length co15) := (blk_cell BK257.out 1).trans rfl; have hcz24_2 : w22.cell? ⟨gb257, 2, none⟩ = some (.slice Ao19 t261.length co19) := (blk_cell BK257.out 2).trans rfl; have hcz24_3 : w22.cell? ⟨gb257, 3, none⟩ = some (.slice none 0 0) := (blk_cell BK257.out 3).trans rfl; have hcz24_4 : w22.cell? ⟨gb257, 4, none⟩ = some (.int .i64 0) := (blk_cell BK257.out 4).trans rfl; have hcz24_5 : w22.cell? ⟨gb257, 5, none⟩ = some (.slice none 0 0) := (blk_cell BK257.out 5).trans rfl; have hfz24_0 := blk_frozen BK257.out 0; have hfz24_1 := blk_frozen BK257.out 1; have hfz24_2 := blk_frozen BK257.out 2; have hfz24_3 := blk_frozen BK257.out 3; have hfz24_4 := blk_frozen BK257.out 4; have hfz24_5 := blk_frozen BK257.out 5; have hcz25_0 : w22.cell? ⟨gb255, 0, none⟩ = some (.bool a0_0) := (blk_cell BK255.out 0).trans rfl; have hcz25_1 : w22.cell? ⟨gb255, 1, none⟩ = some (.slice A0_1 l0_1.length c0_1) := (blk_cell BK255.out 1).trans rfl; have hcz25_2 : w22.cell? ⟨gb255, 2, none⟩ = some (.slice A0_2 l0_2.length c0_2) := (blk_cell BK255.out 2).trans rfl; have hcz25_3 : w22.cell? ⟨gb255, 3, none⟩ = some (.slice A0_3 l0_3.length c0_3) := (blk_cell BK255.out 3).trans rfl; have hcz25_4 : w22.cell? ⟨gb255, 4, none⟩ = some (.int .i64 a0_4) := (blk_cell BK255.out 4).trans rfl; have hcz25_5 : w22.cell? ⟨gb255, 5, none⟩ = some (.slice A0_5 l0_5.length c0_5) := (blk_cell BK255.out 5).trans rfl; have hfz25_0 := blk_frozen BK255.out 0; have hfz25_1 := blk_frozen BK255.out 1; have hfz25_2 := blk_frozen BK255.out 2; have hfz25_3 := blk_frozen BK255.out 3; have hfz25_4 := blk_frozen BK255.out 4; have hfz25_5 := blk_frozen BK255.out 5) | ((with_reducible refine gate_callee (f := 143) rfl ?_); refine sqL (some 21) Try.func143 #[.agg #[.int .i64 a0_4, .slice A0_5 l0_5.length c0_5]] ?_; (with_reducible refine (laws_toGaps.calls k a0_4 _ _ l0_5 t267 t268 _ ?side1 ?side2 A5.out).mono ?_); (case side1 => exact Kd.C_below HR0_5.out (by repeat (first | (with_reducible first | exact HB.out | apply below_alloc | apply pw_below_drewN | apply below_drew1 | refine below_set ?_ GE255.out | refine below_set ?_ GE256.out | refine below_set ?_ GE257.out) | exact HB.out))); (case side2 => exact HC0_5.out); rintro e w26 ⟨v269, rfl, ho0, hb⟩; refine ⟨_, rfl, ?_⟩; have n0_ := Aside0.mk (Kd.R_below (by (with_reducible repeat (first | apply Kd.R_alloc | apply Kd.R_drewN | apply Kd.R_drew)); exact (Kd.R_mono (Kd.R_far (p := ⟨gb257, 3, none⟩) (Kd.R_types HO260.out BK257.out (by decide)) (fun _ hk => hk.2) (.slice Ao23 t264.length co23)) (fun _ h_ => h_.1))) hb); have n1_ := Aside0.mk (Kd.S_elder' (by (with_reducible repeat (first | apply Kd.S_alloc | apply Kd.S_drewN | apply Kd.S_drew)); exact (Kd.S_mono (Kd.S_far (p := ⟨gb257, 3, none⟩) (Kd.S_types HO263.out BK257.out (by decide)) (fun _ hk => hk.2) (.slice Ao23 t264.length co23)) (fun _ h_ => h_.1))) (Kd.R_base ho0) hb); have n2_ := Aside0.mk (Kd.R_below (by (with_reducible repeat (first | apply Kd.R_alloc | apply Kd.R_drewN | apply Kd.R_drew)); exact (Kd.R_mono (Kd.R_far (p := ⟨gb257, 3, none⟩) (Kd.R_types HO266.out BK257.out (by decide)) (fun _ hk => hk.2) (.slice Ao23 t264.length co23)) (fun _ h_ => h_.1))) hb); have n3_ := Aside0.mk (Kd.R_lower ho0 (below_size (by repeat (first | (with_reducible first | exact HB.out | apply below_alloc | apply pw_below_drewN | apply below_drew1 | refine below_set ?_ GE255.out | refine below_set ?_ GE256.out | refine below_set ?_ GE257.out) | exact HB.out)))); have n4_ := Aside0.mk (blk_below (g := gb255) (o := .cells #[.bool a0_0, .slice A0_1 l0_1.length c0_1, .slice A0_2 l0_2.length c0_2, .slice A0_3 l0_3.length c0_3, .int .i64 a0_4, .slice A0_5 l0_5.length c0_5] 72 (0, 0)) (by refine sqt ?_; refine blk_far ?_ NB255_257.out _; refine sqt ?_; exact BK255.out) hb); have n5_ := Aside0.mk (blk_below (g := gb256) (o := .cells #[.bool false, .slice none 0 0, .slice none 0 0, .slice none 0 0, .int .i64 0, .slice none 0 0] 78 (0, 0)) (by refine sqt ?_; refine blk_far ?_ NB256_257.out _; refine sqt ?_; exact BK256.out) hb); have n6_ := Aside0.mk (blk_below (g := gb257) (o := .cells #[.bool a0_0, .slice Ao15 t258.length co15, .slice Ao19 t261.length co19, .slice Ao23 t264.length co23, .int .i64 0, .slice none 0 0] 78 (0, 0)) (by refine sqt ?_; refine blk_put (cs := #[.bool a0_0, .slice Ao15 t258.length co15, .slice Ao19 t261.length co19, .slice none 0 0, .int .i64 0, .slice none 0 0]) ?_ 3 _ rfl; refine sqt ?_; exact BK257.out) hb); have n7_ := sqs HB hb; clear HO260; clear HO263; clear HO266; clear BK255; clear BK256; clear BK257; clear HB; have HO260 := n0_; have HO263 := n1_; have HO266 := n2_; have HO270 := n3_; have BK255 := n4_; have BK256 := n5_; have BK257 := n6_; have HB := n7_; clear n0_ n1_ n2_ n3_ n4_ n5_ n6_ n7_; (try clear hb); (try clear hb2); (try clear hk); (try clear hi); (try clear ho0); have hcz27_0 : w26.cell? ⟨gb257, 0, none⟩ = some (.bool a0_0) := (blk_cell BK257.out 0).trans rfl; have hcz27_1 : w26.cell? ⟨gb257, 1, none⟩ = some (.slice Ao15 t258.length co15) := (blk_cell BK257.out 1).trans rfl; have hcz27_2 : w26.cell? ⟨gb257, 2, none⟩ = some (.slice Ao19 t261.length co19) := (blk_cell BK257.out 2).trans rfl; have hcz27_3 : w26.cell? ⟨gb257, 3, none⟩ = some (.slice Ao23 t264.length co23) := (blk_cell BK257.out 3).trans rfl; have hcz27_4 : w26.cell? ⟨gb257, 4, none⟩ = some (.int .i64 0) := (blk_cell BK257.out 4).trans rfl; have hcz27_5 : w26.cell? ⟨gb257, 5, none⟩ = some (.slice none 0 0) := (blk_cell BK257.out 5).trans rfl; have hfz27_0 := blk_frozen BK257.out 0; have hfz27_1 := blk_frozen BK257.out 1; have hfz27_2 := blk_frozen BK257.out 2; have hfz27_3 := blk_frozen BK257.out 3; have hfz27_4 := blk_frozen BK257.out 4; have hfz27_5 := blk_frozen BK257.out 5; obtain ⟨Ao28, co28, eo28⟩ := Kd.R_slice HO270.out; subst eo28; have hcz29_0 : w26.cell? ⟨gb256, 0, none⟩ = some (.bool false) := (blk_cell BK256.out 0).trans rfl; have hcz29_1 : w26.cell? ⟨gb256, 1, none⟩ = some (.slice none 0 0) := (blk_cell BK256.out 1).trans rfl; have hcz29_2 : w26.cell? ⟨gb256, 2, none⟩ = some (.slice none 0 0) := (blk_cell BK256.out 2).trans rfl; have hcz29_3 : w26.cell? ⟨gb256, 3, none⟩ = some (.slice none 0 0) := (blk_cell BK256.out 3).trans rfl; have hcz29_4 : w26.cell? ⟨gb256, 4, none⟩ = some (.int .i64 0) := (blk_cell BK256.out 4).trans rfl; have hcz29_5 : w26.cell? ⟨gb256, 5, none⟩ = some (.slice none 0 0) := (blk_cell BK256.out 5).trans rfl; have hfz29_0 := blk_frozen BK256.out 0; have hfz29_1 := blk_frozen BK256.out 1; have hfz29_2 := blk_frozen BK256.out 2; have hfz29_3 := blk_frozen BK256.out 3; have hfz29_4 := blk_frozen BK256.out 4; have hfz29_5 := blk_frozen BK256.out 5))
 refine bodyPost_ret (results_cell_row rfl _ _ gb256 78 #[.bool a0_0, .slice Ao15 t258.length co15, .slice Ao19 t261.length co19, .slice Ao23 t264.length co23, .int .i64 t267, .slice Ao28 t268.length co28] (0, 0) _ rfl (by refine sqt ?_; refine blk_put (cs := #[.bool a0_0, .slice Ao15 t258.length co15, .slice Ao19 t261.length co19, .slice Ao23 t264.length co23, .int .i64 t267, .slice none 0 0]) ?_ 5 _ rfl; refine sqt ?_; refine blk_put (cs := #[.bool a0_0, .slice Ao15 t258.length co15, .slice Ao19 t261.length co19, .slice Ao23 t264.length co23, .int .i64 0, .slice none 0 0]) ?_ 4 _ rfl; refine sqt ?_; refine blk_put (cs := #[.bool a0_0, .slice Ao15 t258.length co15, .slice Ao19 t261.length co19, .slice none 0 0, .int .i64 0, .slice none 0 0]) ?_ 3 _ rfl; refine sqt ?_; refine blk_put (cs := #[.bool a0_0, .slice Ao15 t258.length co15, .slice none 0 0, .slice none 0 0, .int .i64 0, .slice none 0 0]) ?_ 2 _ rfl; refine sqt ?_; refine blk_put (cs := #[.bool a0_0, .slice none 0 0, .slice none 0 0, .slice none 0 0, .int .i64 0, .slice none 0 0]) ?_ 1 _ rfl; refine sqt ?_; refine blk_put (cs := #[.bool false, .slice none 0 0, .slice none 0 0, .slice none 0 0, .int .i64 0, .slice none 0 0]) ?_ 0 _ rfl; refine sqt ?_; refine blk_far ?_ NB256_257.out _; refine sqt ?_; refine blk_far ?_ NB256_257.out _; refine sqt ?_; exact BK256.out) Try.underlying78 rfl (by kernel_rfl)) rfl ?_
 exact ⟨_, _, _, _, by first | rfl | (simp [errW_none, errW_some] <;> rfl) | (simp [*, errW_none, errW_some] <;> rfl), by (with_reducible repeat (first | apply Kd.R_alloc | apply Kd.R_drewN | apply Kd.R_drew)); exact Kd.R_mono (Kd.R_far (p := ⟨gb256, 5, none⟩) (Kd.R_far (p := ⟨gb256, 4, none⟩) (Kd.R_far (p := ⟨gb256, 3, none⟩) (Kd.R_far (p := ⟨gb256, 2, none⟩) (Kd.R_far (p := ⟨gb256, 1, none⟩) (Kd.R_far (p := ⟨gb256, 0, none⟩) (Kd.R_far (p := ⟨gb257, 5, none⟩) (Kd.R_far (p := ⟨gb257, 4, none⟩) (Kd.R_types (Kd.R_types HO260.out BK257.out (by decide)) BK256.out (by decide)) (fun _ hk => hk.1.2) (.int .i64 t267)) (fun _ hk => hk.1.2) (.slice Ao28 t268.length co28)) (fun _ hk => hk.2) (.bool a0_0)) (fun _ hk => hk.2) (.slice Ao15 t258.length co15)) (fun _ hk => hk.2) (.slice Ao19 t261.length co19)) (fun _ hk => hk.2) (.slice Ao23 t264.length co23)) (fun _ hk => hk.2) (.int .i64 t267)) (fun _ hk => hk.2) (.slice Ao28 t268.length co28)) (fun _ hk => hk.1.1.2), by (with_reducible repeat (first | apply Kd.S_alloc | apply Kd.S_drewN | apply Kd.S_drew)); exact Kd.S_mono (Kd.S_far (p := ⟨gb256, 5, none⟩) (Kd.S_far (p := ⟨gb256, 4, none⟩) (Kd.S_far (p := ⟨gb256, 3, none⟩) (Kd.S_far (p := ⟨gb256, 2, none⟩) (Kd.S_far (p := ⟨gb256, 1, none⟩) (Kd.S_far (p := ⟨gb256, 0, none⟩) (Kd.S_far (p := ⟨gb257, 5, none⟩) (Kd.S_far (p := ⟨gb257, 4, none⟩) (Kd.S_types (Kd.S_types HO263.out BK257.out (by decide)) BK256.out (by decide)) (fun _ hk => hk.1.2) (.int .i64 t267)) (fun _ hk => hk.1.2) (.slice Ao28 t268.length co28)) (fun _ hk => hk.2) (.bool a0_0)) (fun _ hk => hk.2) (.slice Ao15 t258.length co15)) (fun _ hk => hk.2) (.slice Ao19 t261.length co19)) (fun _ hk => hk.2) (.slice Ao23 t264.length co23)) (fun _ hk => hk.2) (.int .i64 t267)) (fun _ hk => hk.2) (.slice Ao28 t268.length co28)) (fun _ hk => hk.1.1.2), by (with_reducible repeat (first | apply Kd.R_alloc | apply Kd.R_drewN | apply Kd.R_drew)); exact Kd.R_mono (Kd.R_far (p := ⟨gb256, 5, none⟩) (Kd.R_far (p := ⟨gb256, 4, none⟩) (Kd.R_far (p := ⟨gb256, 3, none⟩) (Kd.R_far (p := ⟨gb256, 2, none⟩) (Kd.R_far (p := ⟨gb256, 1, none⟩) (Kd.R_far (p := ⟨gb256, 0, none⟩) (Kd.R_far (p := ⟨gb257, 5, none⟩) (Kd.R_far (p := ⟨gb257, 4, none⟩) (Kd.R_types (Kd.R_types HO266.out BK257.out (by decide)) BK256.out (by decide)) (fun _ hk => hk.1.2) (.int .i64 t267)) (fun _ hk => hk.1.2) (.slice Ao28 t268.length co28)) (fun _ hk => hk.2) (.bool a0_0)) (fun _ hk => hk.2) (.slice Ao15 t258.length co15)) (fun _ hk => hk.2) (.slice Ao19 t261.length co19)) (fun _ hk => hk.2) (.slice Ao23 t264.length co23)) (fun _ hk => hk.2) (.int .i64 t267)) (fun _ hk => hk.2) (.slice Ao28 t268.length co28)) (fun _ hk => hk.1.1.2), by (with_reducible repeat (first | apply Kd.R_alloc | apply Kd.R_drewN | apply Kd.R_drew)); exact Kd.R_mono (Kd.R_far (p := ⟨gb256, 5, none⟩) (Kd.R_far (p := ⟨gb256, 4, none⟩) (Kd.R_far (p := ⟨gb256, 3, none⟩) (Kd.R_far (p := ⟨gb256, 2, none⟩) (Kd.R_far (p := ⟨gb256, 1, none⟩) (Kd.R_far (p := ⟨gb256, 0, none⟩) (Kd.R_far (p := ⟨gb257, 5, none⟩) (Kd.R_far (p := ⟨gb257, 4, none⟩) (Kd.R_types (Kd.R_types HO270.out BK257.out (by decide)) BK256.out (by decide)) (fun _ hk => hk.1.2) (.int .i64 t267)) (fun _ hk => hk.1.2) (.slice Ao28 t268.length co28)) (fun _ hk => hk.2) (.bool a0_0)) (fun _ hk => hk.2) (.slice Ao15 t258.length co15)) (fun _ hk => hk.2) (.slice Ao19 t261.length co19)) (fun _ hk => hk.2) (.slice Ao23 t264.length co23)) (fun _ hk => hk.2) (.int .i64 t267)) (fun _ hk => hk.2) (.slice Ao28 t268.length co28)) (fun _ hk => trivial), by repeat (first | (with_reducible first | exact HB.out | apply below_alloc | apply pw_below_drewN | apply below_drew1 | refine below_set ?_ GE255.out | refine below_set ?_ GE256.out | refine below_set ?_ GE257.out) | exact HB.out)⟩

/-! ### impl_NumOk: function 117 -/
set_option maxHeartbeats 8000000 in
set_option maxRecDepth 100000 in
theorem impl_NumOk.calls (a0 : Int) (r : Bool) (w : World) (h : impl_NumOk.f a0 = some r) :
  Calls Try.prog 117 #[.int .i64 a0] w fun e w' => e = .returned (.bool r) ∧ Drawn0 w w' := by
 have H : (if a0 ≥ (-2147483648) then (some (decide (a0 ≤ 2147483647))) else (some false)) = some r := h
 clear h
 by_cases c2 : a0 ≥ (-2147483648)
 ·rw [if_pos c2] at H
  have c2b0 : decide ((-2147483648) ≤ a0) = true := decide_eq_true c2
  clear c2
  obtain rfl := Option.some.inj H
  go_enter Try.func117, Try.ntmps117
  go_wp2
  go_ret
  exact ⟨by first | rfl | (simp; done) | (simp [*]; done), by repeat (first | exact Drawn0.refl _ | apply Drawn0.step)⟩
 ·rw [if_neg c2] at H
  have c2b0 : decide ((-2147483648) ≤ a0) = false := decide_eq_false c2
  clear c2
  obtain rfl := Option.some.inj H
  go_enter Try.func117, Try.ntmps117
  go_wp2
  go_ret
  exact ⟨by first | rfl | (simp; done) | (simp [*]; done), by repeat (first | exact Drawn0.refl _ | apply Drawn0.step)⟩

/-! ### impl_rangeNone: function 126 -/
set_option maxHeartbeats 8000000 in
set_option maxRecDepth 100000 in
theorem impl_rangeNone.calls  (r1 : Int) (r2 : Int) (w : World) (h : impl_rangeNone.f  = some (r1, r2)) :
  Calls Try.prog 126 #[] w fun e w' => e = .returned (.agg #[.int .i64 r1, .int .i64 r2]) ∧ Below w.heap.size w w' := by
 have hu24 := Try.underlying24
 have HB := Aside0.mk (Below.refl w.heap.size w)
 have H : (some (1, 0)) = some (r1, r2) := h
 clear h
 simp only [Option.some.injEq, Prod.mk.injEq] at H
 obtain ⟨rfl, rfl⟩ := H
 go_enter Try.func126, Try.ntmps126
 go_wp2_with (first | ((with_reducible refine gate_dst (N := 0) rfl ?_); refine sqx 0 #[.int .i64 0, .int .i64 0] 24 ?_; intro gb271 hg w1 hbox hb; have BK271 := Aside0.mk (hbox); have GW271 := sqg HB hg; have GE271 := sqg HB hg; replace HB := sqs HB hb; clear hb hbox hg; obtain ⟨hcz2_0, hcz2_1, hfz2_0, hfz2_1⟩ := sqc2 BK271))
 refine bodyPost_ret (results_cell_row rfl _ _ gb271 24 #[.int .i64 1, .int .i64 0] (0, 0) _ rfl (by refine sqt ?_; refine blk_put (cs := #[.int .i64 1, .int .i64 0]) ?_ 1 _ rfl; refine sqt ?_; refine blk_put (cs := #[.int .i64 0, .int .i64 0]) ?_ 0 _ rfl; refine sqt ?_; exact BK271.out) Try.underlying24 rfl (by kernel_rfl)) rfl ?_
 exact sqe HB

/-! ### impl_RangeOk: function 76 -/
def impl_RangeOk.T1 : Bool × List (List Nat × List Nat) := (true, [([], []), ([], []), ([0, 1], [0, 1]), ([2, 1], [2]), ([3], [3]), ([4, 3], [3, 4]), ([5, 3, 3], [3, 5]), ([6, 6, 3], [3, 6]), ([7], [7]), ([8, 7], [7, 8]), ([9, 7, 7], [7, 9]), ([7, 10, 3], [3, 7, 10]), ([11, 10, 3], [3, 11]), ([12], [12]), ([13, 12], [12, 13]), ([12], [12]), ([15, 12], [12, 15]), ([14, 16, 12], [12, 14, 16]), ([12, 17, 3], [3, 12, 17]), ([3, 18], [3, 18]), ([19, 12, 0, 1, 2, 3, 4, 5, 6, 7, 8, 9, 10, 11, 12, 13, 14, 15, 16, 17, 18, 19], [19])])
def impl_RangeOk.B1 : List Nat := [0, 0, 3, 7, 15, 31, 63, 127, 255, 511, 1023, 2047, 4095, 8191, 16383, 8191, 40959, 131071, 262143, 524287, 1048575]
theorem impl_RangeOk.tab1 : rtab .any (opsOf Try.f76 1) = impl_RangeOk.T1 := by kernel_rfl
theorem impl_RangeOk.bits1 : waitsOk impl_RangeOk.T1.2 impl_RangeOk.B1 = true := by kernel_rfl
set_option maxHeartbeats 8000000 in
set_option maxRecDepth 100000 in
theorem impl_RangeOk.calls (a0_0 : Int) (a0_1 : Int) (r : Bool) (w : World) (h : impl_RangeOk.f a0_0 a0_1 = some r) :
  Calls Try.prog 76 #[.agg #[.int .i64 a0_0, .int .i64 a0_1]] w fun e w' => e = .returned (.bool r) ∧ Below w.heap.size w w' := by
 have hu24 := Try.underlying24
 have HB := Aside0.mk (Below.refl w.heap.size w)
 have H : ((impl_rangeNone.f).bind fun bt273 => (if (a0_0 == bt273.1 && (a0_1 == bt273.2)) = true then (some true) else ((impl_NumOk.f a0_0).bind fun t275 => (if t275 = true then ((impl_NumOk.f a0_1).bind fun t276 => (if t276 = true then (some (decide (a0_0 ≤ a0_1))) else (some false))) else (some false))))) = some r := h
 clear h
 replace H := Option.bind_eq_some_iff.mp H
 obtain ⟨⟨t273, t274⟩, A20, H⟩ := H
 replace H : (if (a0_0 == t273 && (a0_1 == t274)) = true then (some true) else ((impl_NumOk.f a0_0).bind fun t275 => (if t275 = true then ((impl_NumOk.f a0_1).bind fun t276 => (if t276 = true then (some (decide (a0_0 ≤ a0_1))) else (some false))) else (some false)))) = some r := H
 have A2 := Aside0.mk A20
 clear A20
 by_cases c3 : (a0_0 == t273 && (a0_1 == t274)) = true
 ·rw [if_pos c3] at H
  have c3b0 : (a0_0 == t273 && (a0_1 == t274)) = true := c3
  (try (have c3b1 : decide (a0_0 = t273 && (a0_1 == t274)) = true := by simpa using c3))
  (try (have c3b2 : (a0_0 == t273 && (a0_1 == t274)) = true := by simpa using c3))
  clear c3
  obtain rfl := Option.some.inj H
  go_enter Try.func76, Try.ntmps76
  try go_wp2_with (first | ((with_reducible refine gate_dst (N := 1) rfl ?_); refine sqx 1 #[.int .i64 a0_0, .int .i64 a0_1] 24 ?_; intro gb272 hg w4 hbox hb; have BK272 := Aside0.mk (hbox); have GW272 := sqg HB hg; have GE272 := sqg HB hg; replace HB := sqs HB hb; clear hb hbox hg))
  replace BK272 := Aside0.mk (blk_drew BK272.out)
  replace HB := Aside0.mk (below_drew1 HB.out)
  refine start_ (n := 21) (S := fun w' => w'.cell? ⟨gb272, 0, none⟩ = some (.int .i64 a0_0) ∧ w'.cell? ⟨gb272, 1, none⟩ = some (.int .i64 a0_1)) (ds := []) #[false, false, false, false, false, false, false, false, false, false, false, false, false, false, false, false, false, false, false, false, false] (by kernel_rfl) rfl rfl ⟨(blk_cell BK272.out 0).trans rfl, (blk_cell BK272.out 1).trans rfl⟩ (fun hHeld => ?_); refine with_tabW impl_RangeOk.tab1 impl_RangeOk.bits1 (fun HT_ HW_ => ?_)
  generalize w4.drew = w5 at BK272 HB hHeld ⊢
  refine sqw HT_ HW_ 0 3 hHeld ?_
  refine sqo HT_ 1 4 (fun K hK => ?_)
  refine sqG Try.func126 #[] ?_
  with_reducible refine (impl_rangeNone.calls  t273 t274 _ A2.out).mono ?_
  rintro e w6 ⟨rfl, hb⟩
  refine ⟨_, rfl, ?_⟩
  replace BK272 := sqb BK272 hb
  replace HB := sqs HB hb
  (try clear hb)
  refine hK.out _ _ sqz (fun hHeld => ?_)
  clear hK K
  refine sqnm ?_
  refine sqp HT_ 2 5 ?_
  refine sqp HT_ 3 6 ?_
  refine sqpu HT_ 4 7 ?_
  refine sqpu HT_ 5 8 ?_
  refine sqpu HT_ 6 9 ?_
  refine sqpu HT_ 7 10 ?_
  refine sqpu HT_ 8 11 ?_
  refine sqpu HT_ 9 12 ?_
  refine sqpu HT_ 10 13 ?_
  refine sqpu HT_ 11 14 ?_
  refine sqpu HT_ 12 15 ?_
  refine sqpu HT_ 13 16 ?_
  refine sqpu HT_ 14 17 ?_
  refine sqpu HT_ 15 18 ?_
  refine sqpu HT_ 16 19 ?_
  refine sqpu HT_ 17 20 ?_
  refine sqpu HT_ 18 21 ?_
  refine sqp HT_ 19 22 ?_
  refine sqp HT_ 20 2 ?_
  refine done_ (done_of HT_.out (by kernel_rfl)) ?_
  try go_wp2
  go_ret
  exact sqe HB
 ·rw [if_neg c3] at H
  have c3b0 : (a0_0 == t273 && (a0_1 == t274)) = false := by simpa using c3
  (try (have c3b1 : decide (a0_0 = t273 && (a0_1 == t274)) = false := by simpa using c3))
  (try (have c3b2 : (a0_0 == t273 && (a0_1 == t274)) = false := by simpa using c3))
  (try (have c3b3 : ¬ (a0_0 = t273 && (a0_1 == t274)) := by simpa using c3))
  clear c3
  replace H := Option.bind_eq_some_iff.mp H
  obtain ⟨t275, A70, H⟩ := H
  replace H : (if t275 = true then ((impl_NumOk.f a0_1).bind fun t276 => (if t276 = true then (some (decide (a0_0 ≤ a0_1))) else (some false))) else (some false)) = some r := H
  have A7 := Aside0.mk A70
  clear A70
  by_cases c8 : t275 = true
  ·subst c8
   have H1 : ((impl_NumOk.f a0_1).bind fun t276 => (if t276 = true then (some (decide (a0_0 ≤ a0_1))) else (some false))) = some r := by rw [if_pos rfl] at H; exact H
   clear H
   have H := H1
   clear H1
   replace H := Option.bind_eq_some_iff.mp H
   obtain ⟨t276, A90, H⟩ := H
   replace H : (if t276 = true then (some (decide (a0_0 ≤ a0_1))) else (some false)) = some r := H
   have A9 := Aside0.mk A90
   clear A90
   by_cases c10 : t276 = true
   ·subst c10
    have H1 : (some (decide (a0_0 ≤ a0_1))) = some r := by rw [if_pos rfl] at H; exact H
    clear H
    have H := H1
    clear H1
    obtain rfl := Option.some.inj H
    go_enter Try.func76, Try.ntmps76
    try go_wp2_with (first | ((with_reducible refine gate_dst (N := 1) rfl ?_); refine sqx 1 #[.int .i64 a0_0, .int .i64 a0_1] 24 ?_; intro gb272 hg w11 hbox hb; have BK272 := Aside0.mk (hbox); have GW272 := sqg HB hg; have GE272 := sqg HB hg; replace HB := sqs HB hb; clear hb hbox hg))
    replace BK272 := Aside0.mk (blk_drew BK272.out)
    replace HB := Aside0.mk (below_drew1 HB.out)
    refine start_ (n := 21) (S := fun w' => w'.cell? ⟨gb272, 0, none⟩ = some (.int .i64 a0_0) ∧ w'.cell? ⟨gb272, 1, none⟩ = some (.int .i64 a0_1)) (ds := []) #[false, false, false, false, false, false, false, false, false, false, false, false, false, false, false, false, false, false, false, false, false] (by kernel_rfl) rfl rfl ⟨(blk_cell BK272.out 0).trans rfl, (blk_cell BK272.out 1).trans rfl⟩ (fun hHeld => ?_); refine with_tabW impl_RangeOk.tab1 impl_RangeOk.bits1 (fun HT_ HW_ => ?_)
    generalize w11.drew = w12 at BK272 HB hHeld ⊢
    refine sqw HT_ HW_ 0 3 hHeld ?_
    refine sqo HT_ 1 4 (fun K hK => ?_)
    refine sqG Try.func126 #[] ?_
    with_reducible refine (impl_rangeNone.calls  t273 t274 _ A2.out).mono ?_
    rintro e w13 ⟨rfl, hb⟩
    refine ⟨_, rfl, ?_⟩
    replace BK272 := sqb BK272 hb
    replace HB := sqs HB hb
    (try clear hb)
    refine hK.out _ _ sqz (fun hHeld => ?_)
    clear hK K
    refine sqnm ?_
    refine sqp HT_ 2 5 ?_
    refine sqp HT_ 3 6 ?_
    refine sqp HT_ 4 7 ?_
    refine sqw HT_ HW_ 5 8 hHeld ?_
    refine sqo HT_ 6 9 (fun K hK => ?_)
    refine sqG Try.func117 #[.int .i64 a0_0] ?_
    with_reducible refine (impl_NumOk.calls a0_0 true _ A7.out).mono ?_
    rintro e w' ⟨rfl, ⟨nd, rfl⟩⟩
    refine ⟨_, rfl, ?_⟩
    refine hK.out _ _ sqz (fun hHeld => ?_)
    clear hK K
    refine sqnm ?_
    refine sqp HT_ 7 10 ?_
    refine sqp HT_ 8 11 ?_
    refine sqw HT_ HW_ 9 12 hHeld ?_
    refine sqo HT_ 10 13 (fun K hK => ?_)
    refine sqG Try.func117 #[.int .i64 a0_1] ?_
    with_reducible refine (impl_NumOk.calls a0_1 true _ A9.out).mono ?_
    rintro e w' ⟨rfl, ⟨nd, rfl⟩⟩
    refine ⟨_, rfl, ?_⟩
    refine hK.out _ _ sqz (fun hHeld => ?_)
    clear hK K
    refine sqnm ?_
    refine sqp HT_ 11 14 ?_
    refine sqp HT_ 12 15 ?_
    refine sqp HT_ 13 16 ?_
    refine sqp HT_ 15 18 ?_
    refine sqw HT_ HW_ 14 17 hHeld ?_
    refine sqw HT_ HW_ 16 19 hHeld ?_
    refine sqp HT_ 17 20 ?_
    refine sqp HT_ 18 21 ?_
    refine sqp HT_ 19 22 ?_
    refine sqp HT_ 20 2 ?_
    refine done_ (done_of HT_.out (by kernel_rfl)) ?_
    try go_wp2
    go_ret
    exact sqe HB
   ·replace c10 := Bool.eq_false_iff.mpr c10
    subst c10
    have H1 : (some false) = some r := by rw [if_neg (show ¬ (false = true) by decide)] at H; exact H
    clear H
    have H := H1
    clear H1
    obtain rfl := Option.some.inj H
    go_enter Try.func76, Try.ntmps76
    try go_wp2_with (first | ((with_reducible refine gate_dst (N := 1) rfl ?_); refine sqx 1 #[.int .i64 a0_0, .int .i64 a0_1] 24 ?_; intro gb272 hg w14 hbox hb; have BK272 := Aside0.mk (hbox); have GW272 := sqg HB hg; have GE272 := sqg HB hg; replace HB := sqs HB hb; clear hb hbox hg))
    replace BK272 := Aside0.mk (blk_drew BK272.out)
    replace HB := Aside0.mk (below_drew1 HB.out)
    refine start_ (n := 21) (S := fun w' => w'.cell? ⟨gb272, 0, none⟩ = some (.int .i64 a0_0) ∧ w'.cell? ⟨gb272, 1, none⟩ = some (.int .i64 a0_1)) (ds := []) #[false, false, false, false, false, false, false, false, false, false, false, false, false, false, false, false, false, false, false, false, false] (by kernel_rfl) rfl rfl ⟨(blk_cell BK272.out 0).trans rfl, (blk_cell BK272.out 1).trans rfl⟩ (fun hHeld => ?_); refine with_tabW impl_RangeOk.tab1 impl_RangeOk.bits1 (fun HT_ HW_ => ?_)
    generalize w14.drew = w15 at BK272 HB hHeld ⊢
    refine sqw HT_ HW_ 0 3 hHeld ?_
    refine sqo HT_ 1 4 (fun K hK => ?_)
    refine sqG Try.func126 #[] ?_
    with_reducible refine (impl_rangeNone.calls  t273 t274 _ A2.out).mono ?_
    rintro e w16 ⟨rfl, hb⟩
    refine ⟨_, rfl, ?_⟩
    replace BK272 := sqb BK272 hb
    replace HB := sqs HB hb
    (try clear hb)
    refine hK.out _ _ sqz (fun hHeld => ?_)
    clear hK K
    refine sqnm ?_
    refine sqp HT_ 2 5 ?_
    refine sqp HT_ 3 6 ?_
    refine sqp HT_ 4 7 ?_
    refine sqw HT_ HW_ 5 8 hHeld ?_
    refine sqo HT_ 6 9 (fun K hK => ?_)
    refine sqG Try.func117 #[.int .i64 a0_0] ?_
    with_reducible refine (impl_NumOk.calls a0_0 true _ A7.out).mono ?_
    rintro e w' ⟨rfl, ⟨nd, rfl⟩⟩
    refine ⟨_, rfl, ?_⟩
    refine hK.out _ _ sqz (fun hHeld => ?_)
    clear hK K
    refine sqnm ?_
    refine sqp HT_ 7 10 ?_
    refine sqp HT_ 8 11 ?_
    refine sqw HT_ HW_ 9 12 hHeld ?_
    refine sqo HT_ 10 13 (fun K hK => ?_)
    refine sqG Try.func117 #[.int .i64 a0_1] ?_
    with_reducible refine (impl_NumOk.calls a0_1 false _ A9.out).mono ?_
    rintro e w' ⟨rfl, ⟨nd, rfl⟩⟩
    refine ⟨_, rfl, ?_⟩
    refine hK.out _ _ sqz (fun hHeld => ?_)
    clear hK K
    refine sqnm ?_
    refine sqp HT_ 11 14 ?_
    refine sqp HT_ 12 15 ?_
    refine sqpu HT_ 13 16 ?_
    refine sqpu HT_ 14 17 ?_
    refine sqpu HT_ 15 18 ?_
    refine sqpu HT_ 16 19 ?_
    refine sqpu HT_ 17 20 ?_
    refine sqp HT_ 18 21 ?_
    refine sqp HT_ 19 22 ?_
    refine sqp HT_ 20 2 ?_
    refine done_ (done_of HT_.out (by kernel_rfl)) ?_
    try go_wp2
    go_ret
    exact sqe HB
  ·replace c8 := Bool.eq_false_iff.mpr c8
   subst c8
   have H1 : (some false) = some r := by rw [if_neg (show ¬ (false = true) by decide)] at H; exact H
   clear H
   have H := H1
   clear H1
   obtain rfl := Option.some.inj H
   go_enter Try.func76, Try.ntmps76
   try go_wp2_with (first | ((with_reducible refine gate_dst (N := 1) rfl ?_); refine sqx 1 #[.int .i64 a0_0, .int .i64 a0_1] 24 ?_; intro gb272 hg w17 hbox hb; have BK272 := Aside0.mk (hbox); have GW272 := sqg HB hg; have GE272 := sqg HB hg; replace HB := sqs HB hb; clear hb hbox hg))
   replace BK272 := Aside0.mk (blk_drew BK272.out)
   replace HB := Aside0.mk (below_drew1 HB.out)
   refine start_ (n := 21) (S := fun w' => w'.cell? ⟨gb272, 0, none⟩ = some (.int .i64 a0_0) ∧ w'.cell? ⟨gb272, 1, none⟩ = some (.int .i64 a0_1)) (ds := []) #[false, false, false, false, false, false, false, false, false, false, false, false, false, false, false, false, false, false, false, false, false] (by kernel_rfl) rfl rfl ⟨(blk_cell BK272.out 0).trans rfl, (blk_cell BK272.out 1).trans rfl⟩ (fun hHeld => ?_); refine with_tabW impl_RangeOk.tab1 impl_RangeOk.bits1 (fun HT_ HW_ => ?_)
   generalize w17.drew = w18 at BK272 HB hHeld ⊢
   refine sqw HT_ HW_ 0 3 hHeld ?_
   refine sqo HT_ 1 4 (fun K hK => ?_)
   refine sqG Try.func126 #[] ?_
   with_reducible refine (impl_rangeNone.calls  t273 t274 _ A2.out).mono ?_
   rintro e w19 ⟨rfl, hb⟩
   refine ⟨_, rfl, ?_⟩
   replace BK272 := sqb BK272 hb
   replace HB := sqs HB hb
   (try clear hb)
   refine hK.out _ _ sqz (fun hHeld => ?_)
   clear hK K
   refine sqnm ?_
   refine sqp HT_ 2 5 ?_
   refine sqp HT_ 3 6 ?_
   refine sqp HT_ 4 7 ?_
   refine sqw HT_ HW_ 5 8 hHeld ?_
   refine sqo HT_ 6 9 (fun K hK => ?_)
   refine sqG Try.func117 #[.int .i64 a0_0] ?_
   with_reducible refine (impl_NumOk.calls a0_0 false _ A7.out).mono ?_
   rintro e w' ⟨rfl, ⟨nd, rfl⟩⟩
   refine ⟨_, rfl, ?_⟩
   refine hK.out _ _ sqz (fun hHeld => ?_)
   clear hK K
   refine sqnm ?_
   refine sqp HT_ 7 10 ?_
   refine sqpu HT_ 8 11 ?_
   refine sqpu HT_ 9 12 ?_
   refine sqpu HT_ 10 13 ?_
   refine sqp HT_ 11 14 ?_
   refine sqp HT_ 12 15 ?_
   refine sqpu HT_ 13 16 ?_
   refine sqpu HT_ 14 17 ?_
   refine sqpu HT_ 15 18 ?_
   refine sqpu HT_ 16 19 ?_
   refine sqpu HT_ 17 20 ?_
   refine sqp HT_ 18 21 ?_
   refine sqp HT_ 19 22 ?_
   refine sqp HT_ 20 2 ?_
   refine done_ (done_of HT_.out (by kernel_rfl)) ?_
   try go_wp2
   go_ret
   exact sqe HB

end Go.Proofs.Ytkekcenlleebeaa.PFnExactAbsOk
