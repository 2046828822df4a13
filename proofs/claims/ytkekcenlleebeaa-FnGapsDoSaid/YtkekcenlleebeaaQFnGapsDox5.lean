/- Functions of the program as plain Lean functions, and that calls of them come to what these tell. Conditions: those in each law. -/
import Derived.Test.YtkekcenlleebeaaSq
import Derived.Test.YtkekcenlleebeaaDFnGapsDo
import Derived.Test.YtkekcenlleebeaaQFnGapsDox0
import Derived.Test.YtkekcenlleebeaaQFnGapsDox2
import Derived.Test.YtkekcenlleebeaaQFnGapsDox3
import Derived.Test.YtkekcenlleebeaaQFnGapsDox4
namespace Go.Proofs.Ytkekcenlleebeaa.PFnGapsDo
open Go.RowKit Go.Proofs.Ytkekcenlleebeaa.Sq Go.Proofs.YtkekcenlleebeaaW.PrintWords Go.Proofs.YtkekcenlleebeaaW.PrintLast Go.Proofs.YtkekcenlleebeaaW.PrintMore
attribute [local go_sem] max2_int min2_int max_two min_two max_three min_three max_four min_four   -- for this text's walks alone
set_option linter.unusedVariables false
set_option linter.unusedSimpArgs false

/-! ### spec_DrawGapsHas: function 24 -/
set_option maxHeartbeats 8000000 in
set_option maxRecDepth 100000 in
theorem spec_DrawGapsHas.calls (k : Nat) (A0 : Option Addr) (c0 : Nat) (l0 : List Int) (r1 : Int) (r2 : List Int) (r3 : List Int) (w : World) (hr0 : Kd.C (Kd.int .u8) w A0 l0.length l0) (hc0 : l0.length ≤ c0) (h : spec_DrawGapsHas.f k l0 = some (r1, r2, r3)) :
  Calls Try.prog 24 #[.slice A0 l0.length c0] w fun e w' => ∃ v1_ v2_ : Value, e = .returned (.tuple #[.agg #[.int .i64 r1, v1_], v2_]) ∧ Kd.R (Kd.int .i64) 3 w' w.heap.size (fun k_ => some k_ ≠ (v2_ : Value).ownBlock) v1_ r2 ∧ Kd.R (Kd.int .i64) 3 w' w.heap.size (fun k_ => some k_ ≠ (v1_ : Value).ownBlock) v2_ r3 ∧ Below w.heap.size w w' := by
 have hu41 := Try.underlying41
 have HR0 := Aside0.mk hr0
 have HC0 := Aside0.mk hc0
 clear hr0 hc0
 have HB := Aside0.mk (Below.refl w.heap.size w)
 have H : ((spec_l1Open.f l0).bind fun bt197 => ((spec_l11Size.f k bt197.1 bt197.2).bind fun bt200 => ((spec_l11Numbers.f k bt197.1 bt200.2 bt200.1).bind fun bt202 => ((spec_l11Gaps.f k bt197.1 bt202.2 bt200.1 bt202.1).bind fun bt206 => ((spec_l1Rd_pick.f k bt197.1 bt206.2.2 8).bind fun bt212 => (if bt212.1 = 0 then ((spec_l11Numbers.f k bt197.1 bt212.2 bt200.1).bind fun bt214 => (some (bt206.1, bt206.2.1, bt214.1))) else (if bt212.1 = 1 then (if bt202.1.length < 17592186044416 then (some (bt206.1, bt206.2.1, (bt202.1 ++ [0]))) else (none)) else ((spec_l11Spoilt.f k bt197.1 bt212.2 bt206.1 bt206.2.1).bind fun bt221 => (some (bt221.1, bt221.2.1, bt202.1)))))))))) = some (r1, r2, r3) := h
 clear h
 replace H := sqbi H
 obtain ⟨⟨t197, t198⟩, A2, H⟩ := H
 replace H : ((spec_l11Size.f k t197 t198).bind fun bt200 => ((spec_l11Numbers.f k t197 bt200.2 bt200.1).bind fun bt202 => ((spec_l11Gaps.f k t197 bt202.2 bt200.1 bt202.1).bind fun bt206 => ((spec_l1Rd_pick.f k t197 bt206.2.2 8).bind fun bt212 => (if bt212.1 = 0 then ((spec_l11Numbers.f k t197 bt212.2 bt200.1).bind fun bt214 => (some (bt206.1, bt206.2.1, bt214.1))) else (if bt212.1 = 1 then (if bt202.1.length < 17592186044416 then (some (bt206.1, bt206.2.1, (bt202.1 ++ [0]))) else (none)) else ((spec_l11Spoilt.f k t197 bt212.2 bt206.1 bt206.2.1).bind fun bt221 => (some (bt221.1, bt221.2.1, bt202.1))))))))) = some (r1, r2, r3) := H
 replace H := sqbi H
 obtain ⟨⟨t200, t201⟩, A3, H⟩ := H
 replace H : ((spec_l11Numbers.f k t197 t201 t200).bind fun bt202 => ((spec_l11Gaps.f k t197 bt202.2 t200 bt202.1).bind fun bt206 => ((spec_l1Rd_pick.f k t197 bt206.2.2 8).bind fun bt212 => (if bt212.1 = 0 then ((spec_l11Numbers.f k t197 bt212.2 t200).bind fun bt214 => (some (bt206.1, bt206.2.1, bt214.1))) else (if bt212.1 = 1 then (if bt202.1.length < 17592186044416 then (some (bt206.1, bt206.2.1, (bt202.1 ++ [0]))) else (none)) else ((spec_l11Spoilt.f k t197 bt212.2 bt206.1 bt206.2.1).bind fun bt221 => (some (bt221.1, bt221.2.1, bt202.1)))))))) = some (r1, r2, r3) := H
 replace H := sqbi H
 obtain ⟨⟨t202, t205⟩, A4, H⟩ := H
 replace H : ((spec_l11Gaps.f k t197 t205 t200 t202).bind fun bt206 => ((spec_l1Rd_pick.f k t197 bt206.2.2 8).bind fun bt212 => (if bt212.1 = 0 then ((spec_l11Numbers.f k t197 bt212.2 t200).bind fun bt214 => (some (bt206.1, bt206.2.1, bt214.1))) else (if bt212.1 = 1 then (if t202.length < 17592186044416 then (some (bt206.1, bt206.2.1, (t202 ++ [0]))) else (none)) else ((spec_l11Spoilt.f k t197 bt212.2 bt206.1 bt206.2.1).bind fun bt221 => (some (bt221.1, bt221.2.1, t202))))))) = some (r1, r2, r3) := H
 replace H := sqbi H
 obtain ⟨⟨t206, t207, t210⟩, A5, H⟩ := H
 replace H : ((spec_l1Rd_pick.f k t197 t210 8).bind fun bt212 => (if bt212.1 = 0 then ((spec_l11Numbers.f k t197 bt212.2 t200).bind fun bt214 => (some (t206, t207, bt214.1))) else (if bt212.1 = 1 then (if t202.length < 17592186044416 then (some (t206, t207, (t202 ++ [0]))) else (none)) else ((spec_l11Spoilt.f k t197 bt212.2 t206 t207).bind fun bt221 => (some (bt221.1, bt221.2.1, t202)))))) = some (r1, r2, r3) := H
 replace H := sqbi H
 obtain ⟨⟨t212, t213⟩, A6, H⟩ := H
 replace H : (if t212 = 0 then ((spec_l11Numbers.f k t197 t213 t200).bind fun bt214 => (some (t206, t207, bt214.1))) else (if t212 = 1 then (if t202.length < 17592186044416 then (some (t206, t207, (t202 ++ [0]))) else (none)) else ((spec_l11Spoilt.f k t197 t213 t206 t207).bind fun bt221 => (some (bt221.1, bt221.2.1, t202))))) = some (r1, r2, r3) := H
 replace H := sqj H
 rcases H with ⟨c7, H⟩ | ⟨c7, H⟩
 ·have c7b0 : (t212 == 0) = true := beq_iff_eq.mpr c7
  have c7b1 : (t212 != 0) = false := bne_eq_false_iff_eq.mpr c7
  clear c7
  replace H := sqbi H
  obtain ⟨⟨t214, t217⟩, A8, H⟩ := H
  replace H : (some (t206, t207, t214)) = some (r1, r2, r3) := H
  simp only [Option.some.injEq, Prod.mk.injEq] at H
  obtain ⟨rfl, rfl, rfl⟩ := H
  go_enter Try.func24, Try.ntmps24
  try go_wp2_with (first | ((with_reducible refine gate_dst (N := 2) rfl ?_); refine sqx 2 #[.int .i64 0, .slice none 0 0] 41 ?_; intro gb196 hg w9 hbox hb; have BK196 := Aside0.mk hbox; have GW196 := sqg HB hg; have GE196 := sqg HB hg; replace HB := sqs HB hb; clear hb hbox hg) | ((with_reducible refine gate_callee (f := 92) rfl ?_); refine sqL (some 10) Try.func92 #[.slice A0 l0.length c0] ?_; (with_reducible refine (spec_l1Open.calls _ _ l0 t197 t198 w _ ?side1 ?side2 ?side3 A2.out).mono ?_); (case side1 => repeat (first | (with_reducible first | exact HB.out | apply below_alloc | apply pw_below_drewN | apply below_drew1 | refine below_set ?_ GE196.out) | exact HB.out)); (case side2 => exact HR0.out); (case side3 => exact HC0.out); rintro e w10 ⟨g199, rfl, hi, hb, hb2⟩; refine ⟨_, rfl, ?_⟩; have n0_ := Aside0.mk (blk_below (g := gb196) (o := .cells #[.int .i64 0, .slice none 0 0] 41 (0, 0)) (sqt BK196.out) hb2); have n1_ := Aside0.mk (hb); have n2_ := Aside0.mk (hi); have n3_ := Aside0.mk (IsS161.ne_blk hi (blk_below (g := gb196) (o := .cells #[.int .i64 0, .slice none 0 0] 41 (0, 0)) (sqt BK196.out) hb2) (by decide)); have n4_ := Aside0.mk (Ne.symm (IsS161.ne_blk hi (blk_below (g := gb196) (o := .cells #[.int .i64 0, .slice none 0 0] 41 (0, 0)) (sqt BK196.out) hb2) (by decide))); clear BK196; clear HB; have BK196 := n0_; have HB := n1_; have HI199 := n2_; have NB199_196 := n3_; have NB196_199 := n4_; clear n0_ n1_ n2_ n3_ n4_; (try clear hb); (try clear hb2); (try clear hk); (try clear hi)) | ((with_reducible refine gate_callee (f := 106) rfl ?_); refine sqL (some 12) Try.func106 #[.pointer (some ⟨g199, 0, none⟩)] ?_; (with_reducible refine (spec_l11Size.calls k g199 t197 t198 t200 t201 w _ ?side1 ?side2 A3.out).mono ?_); (case side1 => repeat (first | (with_reducible first | exact HI199.out | apply IsS161.alloc | apply IsS161.drewN | apply IsS161.drew | apply IsS161.set_1 | refine IsS161.far ?_ NB199_196.out _) | exact HI199.out)); (case side2 => repeat (first | (with_reducible first | exact HB.out | apply below_alloc | apply pw_below_drewN | apply below_drew1 | refine below_set ?_ (IsS161.ge HI199.out) | refine below_set ?_ GE196.out) | exact HB.out)); rintro e w11 ⟨rfl, hi, hb, hk⟩; refine ⟨_, rfl, ?_⟩; have n0_ := Aside0.mk (KeepBut.blk hk (g' := gb196) (o := .cells #[.int .i64 0, .slice none 0 0] 41 (0, 0)) (sqt BK196.out) NB196_199.out (by simp)); have n1_ := Aside0.mk (hb); have n2_ := Aside0.mk (hi); clear BK196; clear HB; clear HI199; have BK196 := n0_; have HB := n1_; have HI199 := n2_; clear n0_ n1_ n2_; (try clear hb); (try clear hb2); (try clear hk); (try clear hi)) | ((with_reducible refine gate_callee (f := 107) rfl ?_); refine sqL (some 15) Try.func107 #[.pointer (some ⟨g199, 0, none⟩), .int .i64 t200] ?_; (with_reducible refine (spec_l11Numbers.calls k g199 t197 t201 t200 t202 t205 w _ ?side1 ?side2 A4.out).mono ?_); (case side1 => repeat (first | (with_reducible first | exact HI199.out | apply IsS161.alloc | apply IsS161.drewN | apply IsS161.drew | apply IsS161.set_1 | refine IsS161.far ?_ NB199_196.out _) | exact HI199.out)); (case side2 => repeat (first | (with_reducible first | exact HB.out | apply below_alloc | apply pw_below_drewN | apply below_drew1 | refine below_set ?_ (IsS161.ge HI199.out) | refine below_set ?_ GE196.out) | exact HB.out)); rintro e w12 ⟨v203, rfl, ho0, hi, hb, hk⟩; refine ⟨_, rfl, ?_⟩; have n0_ := Aside0.mk (KeepBut.blk hk (g' := gb196) (o := .cells #[.int .i64 0, .slice none 0 0] 41 (0, 0)) (sqt BK196.out) NB196_199.out (by simp)); have n1_ := Aside0.mk (Kd.R_lower ho0 (below_size (by repeat (first | (with_reducible first | exact HB.out | apply below_alloc | apply pw_below_drewN | apply below_drew1 | refine below_set ?_ (IsS161.ge HI199.out) | refine below_set ?_ GE196.out) | exact HB.out)))); have n2_ := Aside0.mk (hb); have n3_ := Aside0.mk (hi); clear BK196; clear HB; clear HI199; have BK196 := n0_; have HO204 := n1_; have HB := n2_; have HI199 := n3_; clear n0_ n1_ n2_ n3_; (try clear hb); (try clear hb2); (try clear hk); (try clear hi); (try clear ho0); obtain ⟨Ao13, co13, eo13⟩ := Kd.R_slice HO204.out; subst eo13) | ((with_reducible refine gate_callee (f := 108) rfl ?_); refine sqL (some 19) Try.func108 #[.pointer (some ⟨g199, 0, none⟩), .int .i64 t200, .slice Ao13 t202.length co13] ?_; (with_reducible refine (spec_l11Gaps.calls k g199 t197 t205 t200 _ _ t202 t206 t207 t210 w _ ?side1 ?side2 ?side3 ?side4 ?side5 A5.out).mono ?_); (case side1 => repeat (first | (with_reducible first | exact HI199.out | apply IsS161.alloc | apply IsS161.drewN | apply IsS161.drew | apply IsS161.set_1 | refine IsS161.far ?_ NB199_196.out _) | exact HI199.out)); (case side2 => repeat (first | (with_reducible first | exact HB.out | apply below_alloc | apply pw_below_drewN | apply below_drew1 | refine below_set ?_ (IsS161.ge HI199.out) | refine below_set ?_ GE196.out) | exact HB.out)); (case side3 => exact sqC (Kd.R_reads' HO204.out).2.2); (case side4 => exact (Kd.R_reads' HO204.out).2.1); (case side5 => exact far_slice (IsS161.own_ne HI199.out HO204.out (by decide))); rintro e w14 ⟨v208, rfl, ho0, hi, hb, hk⟩; refine ⟨_, rfl, ?_⟩; have n0_ := Aside0.mk (KeepBut.blk hk (g' := gb196) (o := .cells #[.int .i64 0, .slice none 0 0] 41 (0, 0)) (sqt BK196.out) NB196_199.out (by simp)); have n1_ := Aside0.mk (Kd.R_mono (Kd.R_told (Kd.R_oldK (IsS161.apart (show IsS161 w _ g199 t197 t205 from by repeat (first | (with_reducible first | exact HI199.out | apply IsS161.alloc | apply IsS161.drewN | apply IsS161.drew | apply IsS161.set_1 | refine IsS161.far ?_ NB199_196.out _) | exact HI199.out)) (sqy HO204.out) (by decide)) hk) (Kd.R_base ho0)) (fun _ h_ => h_.1)); have n2_ := Aside0.mk (Kd.R_lower (Kd.R_new' ho0 (Kd.R_lt (sqy HO204.out))) (below_size (by repeat (first | (with_reducible first | exact HB.out | apply below_alloc | apply pw_below_drewN | apply below_drew1 | refine below_set ?_ (IsS161.ge HI199.out) | refine below_set ?_ GE196.out) | exact HB.out)))); have n3_ := Aside0.mk (hb); have n4_ := Aside0.mk (hi); clear BK196; clear HO204; clear HB; clear HI199; have BK196 := n0_; have HO204 := n1_; have HO209 := n2_; have HB := n3_; have HI199 := n4_; clear n0_ n1_ n2_ n3_ n4_; (try clear hb); (try clear hb2); (try clear hk); (try clear hi); (try clear ho0)) | ((with_reducible refine gate_dst (N := 7) rfl ?_); refine sqx 7 #[.int .i64 0, .slice none 0 0] 41 ?_; intro gb211 hg w15 hbox hb; have n0_ := Aside0.mk (Kd.R_below (sqy HO204.out) hb); have n1_ := Aside0.mk (Kd.R_below (sqy HO209.out) hb); have n2_ := sqb BK196 hb; have n3_ := Aside0.mk (IsS161.below (by repeat (first | (with_reducible first | exact HI199.out | apply IsS161.alloc | apply IsS161.drewN | apply IsS161.drew | apply IsS161.set_1 | refine IsS161.far ?_ NB199_196.out _) | exact HI199.out)) hb); have n4_ := Aside0.mk (below_step (by repeat (first | (with_reducible first | exact HB.out | apply below_alloc | apply pw_below_drewN | apply below_drew1 | refine below_set ?_ (IsS161.ge HI199.out) | refine below_set ?_ GE196.out) | exact HB.out)) hb); have n5_ := Aside0.mk (hbox); have n6_ := Aside0.mk ((by rw [hg]; exact (below_size (by repeat (first | (with_reducible first | exact HB.out | apply below_alloc | apply pw_below_drewN | apply below_drew1 | refine below_set ?_ (IsS161.ge HI199.out) | refine below_set ?_ GE196.out) | exact HB.out))) : w.heap.size ≤ gb211)); have n7_ := Aside0.mk ((by rw [hg]; exact (below_size (by repeat (first | (with_reducible first | exact HB.out | apply below_alloc | apply pw_below_drewN | apply below_drew1 | refine below_set ?_ (IsS161.ge HI199.out) | refine below_set ?_ GE196.out) | exact HB.out))) : w.heap.size ≤ gb211)); have n8_ := sqn BK196 hg; have n9_ := sqm BK196 hg; have n10_ := Aside0.mk ((by rw [hg]; exact Nat.ne_of_lt (IsS161.lt (show IsS161 w _ g199 t197 t210 from by repeat (first | (with_reducible first | exact HI199.out | apply IsS161.alloc | apply IsS161.drewN | apply IsS161.drew | apply IsS161.set_1 | refine IsS161.far ?_ NB199_196.out _) | exact HI199.out))) : g199 ≠ gb211)); have n11_ := Aside0.mk ((by rw [hg]; exact Nat.ne_of_gt (IsS161.lt (show IsS161 w _ g199 t197 t210 from by repeat (first | (with_reducible first | exact HI199.out | apply IsS161.alloc | apply IsS161.drewN | apply IsS161.drew | apply IsS161.set_1 | refine IsS161.far ?_ NB199_196.out _) | exact HI199.out))) : gb211 ≠ g199)); clear HO204; clear HO209; clear BK196; clear HI199; clear HB; have HO204 := n0_; have HO209 := n1_; have BK196 := n2_; have HI199 := n3_; have HB := n4_; have BK211 := n5_; have GW211 := n6_; have GE211 := n7_; have NB196_211 := n8_; have NB211_196 := n9_; have NB199_211 := n10_; have NB211_199 := n11_; clear n0_ n1_ n2_ n3_ n4_ n5_ n6_ n7_ n8_ n9_ n10_ n11_; clear hb hbox hg; have hnb16 := NB211_196.out; have hnc16 := NB196_211.out; have hnb17 := NB211_199.out; have hnc17 := NB199_211.out; obtain ⟨hcz18_0, hcz18_1, hfz18_0, hfz18_1⟩ := sqc2 BK211; obtain ⟨Ao19, co19, eo19⟩ := Kd.R_slice HO209.out; subst eo19) | ((with_reducible refine gate_callee (f := 109) rfl ?_); refine sqL (some 21) Try.func109 #[.pointer (some ⟨g199, 0, none⟩), .int .i64 8] ?_; (with_reducible refine (spec_l1Rd_pick.calls k g199 t197 t210 8 t212 t213 w _ ?side1 ?side2 A6.out).mono ?_); (case side1 => repeat (first | (with_reducible first | exact HI199.out | apply IsS161.alloc | apply IsS161.drewN | apply IsS161.drew | apply IsS161.set_1 | refine IsS161.far ?_ NB199_196.out _ | refine IsS161.far ?_ NB199_211.out _) | exact HI199.out)); (case side2 => repeat (first | (with_reducible first | exact HB.out | apply below_alloc | apply pw_below_drewN | apply below_drew1 | refine below_set ?_ (IsS161.ge HI199.out) | refine below_set ?_ GE196.out | refine below_set ?_ GE211.out) | exact HB.out)); rintro e w20 ⟨rfl, hi, hb, hk⟩; refine ⟨_, rfl, ?_⟩; have n0_ := Aside0.mk (KeepBut.blk hk (g' := gb196) (o := .cells #[.int .i64 0, .slice none 0 0] 41 (0, 0)) (by refine sqt ?_; refine blk_far ?_ NB196_211.out _; refine sqt ?_; refine blk_far ?_ NB196_211.out _; refine sqt ?_; exact BK196.out) NB196_199.out (by simp)); have n1_ := Aside0.mk (Kd.R_mono (Kd.R_keep (IsS161.apart (show IsS161 w _ g199 t197 t210 from by repeat (first | (with_reducible first | exact HI199.out | apply IsS161.alloc | apply IsS161.drewN | apply IsS161.drew | apply IsS161.set_1 | refine IsS161.far ?_ NB199_196.out _ | refine IsS161.far ?_ NB199_211.out _) | exact HI199.out)) (by (with_reducible repeat (first | apply Kd.R_alloc | apply Kd.R_drewN | apply Kd.R_drew)); exact (Kd.R_mono (Kd.R_far (p := ⟨gb211, 1, none⟩) (Kd.R_far (p := ⟨gb211, 0, none⟩) (Kd.R_types HO204.out BK211.out (by decide)) (fun _ hk => hk.2) (.int .i64 t206)) (fun _ hk => hk.2) (.slice Ao19 t207.length co19)) (fun _ h_ => h_.1))) (by decide)) hk (fun _ h => h.2)) (fun _ h => h.1)); have n2_ := Aside0.mk (Kd.R_mono (Kd.R_keep (IsS161.apart (show IsS161 w _ g199 t197 t210 from by repeat (first | (with_reducible first | exact HI199.out | apply IsS161.alloc | apply IsS161.drewN | apply IsS161.drew | apply IsS161.set_1 | refine IsS161.far ?_ NB199_196.out _ | refine IsS161.far ?_ NB199_211.out _) | exact HI199.out)) (by (with_reducible repeat (first | apply Kd.R_alloc | apply Kd.R_drewN | apply Kd.R_drew)); exact (Kd.R_mono (Kd.R_far (p := ⟨gb211, 1, none⟩) (Kd.R_far (p := ⟨gb211, 0, none⟩) (Kd.R_types HO209.out BK211.out (by decide)) (fun _ hk => hk.2) (.int .i64 t206)) (fun _ hk => hk.2) (.slice Ao19 t207.length co19)) (fun _ h_ => h_.1))) (by decide)) hk (fun _ h => h.2)) (fun _ h => h.1)); have n3_ := Aside0.mk (KeepBut.blk hk (g' := gb211) (o := .cells #[.int .i64 t206, .slice Ao19 t207.length co19] 41 (0, 0)) (by refine sqt ?_; refine blk_put (cs := #[.int .i64 t206, .slice none 0 0]) ?_ 1 _ rfl; refine sqt ?_; refine blk_put (cs := #[.int .i64 0, .slice none 0 0]) ?_ 0 _ rfl; refine sqt ?_; exact BK211.out) NB211_199.out (by simp)); have n4_ := Aside0.mk (hb); have n5_ := Aside0.mk (hi); clear BK196; clear HO204; clear HO209; clear BK211; clear HB; clear HI199; have BK196 := n0_; have HO204 := n1_; have HO209 := n2_; have BK211 := n3_; have HB := n4_; have HI199 := n5_; clear n0_ n1_ n2_ n3_ n4_ n5_; (try clear hb); (try clear hb2); (try clear hk); (try clear hi)))
  replace HO204 := Aside0.mk (Kd.R_drew HO204.out)
  replace HO209 := Aside0.mk (Kd.R_drew HO209.out)
  replace BK196 := Aside0.mk (blk_drew BK196.out)
  replace BK211 := Aside0.mk (blk_drew BK211.out)
  replace HI199 := Aside0.mk (IsS161.drew HI199.out)
  replace HB := Aside0.mk (below_drew1 HB.out)
  refine start_ (n := 6) (S := fun w' => w'.cell? ⟨gb211, 0, none⟩ = some (.int .i64 t206) ∧ w'.cell? ⟨gb211, 1, none⟩ = some (.slice Ao19 t207.length co19)) (ds := []) #[false, false, false, false, false, false] (by kernel_rfl) rfl rfl sqz (fun hHeld => ?_)
  generalize w20.drew = w21 at HO204 HO209 BK196 BK211 HI199 HB hHeld ⊢
  refine pure_ (i := 1) (N := some 25) (v := ?_) (a' := ?_) #[false, true, false, false, false, false] rfl rfl (by kernel_rfl) (fun _ _ _ h => h) (Or.inl ⟨by rfl, ?_⟩) ?_ ?_
  rotate_left
  ·intro w'
   go_simp
   with_reducible rfl
  rotate_left
  ·simp only [Act.put, List.setIfInBounds_toArray, List.set_cons_zero, List.set_cons_succ, i64_w, i32_w]
   rfl
  refine pure_ (i := 2) (N := some 26) (v := ?_) (a' := ?_) #[false, true, true, false, false, false] rfl rfl (by kernel_rfl) (fun _ _ _ h => h) (Or.inl ⟨by rfl, ?_⟩) ?_ ?_
  rotate_left
  ·intro w'
   go_simp
   with_reducible rfl
  rotate_left
  ·simp only [Act.put, List.setIfInBounds_toArray, List.set_cons_zero, List.set_cons_succ, i64_w, i32_w]
   rfl
  refine take_ (i := 0) (N := some 24) (v := ?_) (a' := ?_) #[true, true, true, false, false, false] rfl rfl (by kernel_rfl) (fun _ _ _ h => h) (Or.inl ⟨by rfl, ?_⟩) hHeld ?_ ?_
  rotate_left
  ·rintro w' ⟨s0, s1⟩
   go_simp
   with_reducible rfl
  rotate_left
  ·simp only [Act.put, List.setIfInBounds_toArray, List.set_cons_zero, List.set_cons_succ, i64_w, i32_w]
   rfl
  refine one_ (i := 3) (N := some 27) #[true, true, true, true, false, false] rfl rfl (by kernel_rfl) (by decide) (fun K hK => ?_)
  refine sqG Try.func107 #[.pointer (some ⟨g199, 0, none⟩), .int .i64 t200] ?_
  with_reducible refine (spec_l11Numbers.calls k g199 t197 t213 t200 t214 t217 w _ ?side1 ?side2 A8.out).mono ?_
  (case side1 => repeat (first | (with_reducible first | exact HI199.out | apply IsS161.alloc | apply IsS161.drewN | apply IsS161.drew | apply IsS161.set_1 | refine IsS161.far ?_ NB199_196.out _ | refine IsS161.far ?_ NB199_211.out _) | exact HI199.out))
  (case side2 => repeat (first | (with_reducible first | exact HB.out | apply below_alloc | apply pw_below_drewN | apply below_drew1 | refine below_set ?_ (IsS161.ge HI199.out) | refine below_set ?_ GE196.out | refine below_set ?_ GE211.out) | exact HB.out))
  rintro e w22 ⟨v215, rfl, ho0, hi, hb, hk⟩
  refine ⟨_, rfl, ?_⟩
  have n0_ := Aside0.mk (KeepBut.blk hk (g' := gb196) (o := .cells #[.int .i64 0, .slice none 0 0] 41 (0, 0)) (sqt BK196.out) NB196_199.out (by simp))
  have n1_ := Aside0.mk (Kd.R_mono (Kd.R_told (Kd.R_oldK (IsS161.apart (show IsS161 w _ g199 t197 t213 from by repeat (first | (with_reducible first | exact HI199.out | apply IsS161.alloc | apply IsS161.drewN | apply IsS161.drew | apply IsS161.set_1 | refine IsS161.far ?_ NB199_196.out _ | refine IsS161.far ?_ NB199_211.out _) | exact HI199.out)) (sqy HO204.out) (by decide)) hk) (Kd.R_base ho0)) (fun _ h_ => h_.1))
  have n2_ := Aside0.mk (Kd.R_mono (Kd.R_told (Kd.R_oldK (IsS161.apart (show IsS161 w _ g199 t197 t213 from by repeat (first | (with_reducible first | exact HI199.out | apply IsS161.alloc | apply IsS161.drewN | apply IsS161.drew | apply IsS161.set_1 | refine IsS161.far ?_ NB199_196.out _ | refine IsS161.far ?_ NB199_211.out _) | exact HI199.out)) (sqy HO209.out) (by decide)) hk) (Kd.R_base ho0)) (fun _ h_ => h_.1))
  have n3_ := Aside0.mk (KeepBut.blk hk (g' := gb211) (o := .cells #[.int .i64 t206, .slice Ao19 t207.length co19] 41 (0, 0)) (sqt BK211.out) NB211_199.out (by simp))
  have n4_ := Aside0.mk (Kd.R_lower (Kd.R_new' (Kd.R_new' ho0 (Kd.R_lt (sqy HO204.out))) (Kd.R_lt (sqy HO209.out))) (below_size (by repeat (first | (with_reducible first | exact HB.out | apply below_alloc | apply pw_below_drewN | apply below_drew1 | refine below_set ?_ (IsS161.ge HI199.out) | refine below_set ?_ GE196.out | refine below_set ?_ GE211.out) | exact HB.out))))
  have n5_ := Aside0.mk (hb)
  have n6_ := Aside0.mk (hi)
  clear BK196
  clear HO204
  clear HO209
  clear BK211
  clear HB
  clear HI199
  have BK196 := n0_
  have HO204 := n1_
  have HO209 := n2_
  have BK211 := n3_
  have HO216 := n4_
  have HB := n5_
  have HI199 := n6_
  clear n0_ n1_ n2_ n3_ n4_ n5_ n6_
  (try clear hb)
  (try clear hb2)
  (try clear hk)
  (try clear hi)
  (try clear ho0)
  refine hK.out _ _ sqz (fun hHeld => ?_)
  clear hK K
  refine sqnm ?_
  refine one_ (i := 4) (N := none) #[true, true, true, true, true, false] rfl rfl (by kernel_rfl) (by decide) (fun K hK => ?_)
  have hs23 : w22.cell? ⟨gb196, 0, none⟩ = some (.int .i64 0) := (blk_cell BK196.out 0).trans rfl
  have hfs23 := blk_frozen BK196.out 0
  have hns23_1 := NB211_196.out
  have hms23_1 := NB196_211.out
  have hs24 : w22.cell? ⟨gb196, 1, none⟩ = some (.slice none 0 0) := (blk_cell BK196.out 1).trans rfl
  have hfs24 := blk_frozen BK196.out 1
  have hns24_1 := NB211_196.out
  have hms24_1 := NB196_211.out
  refine skip_ (w1 := ?_) (by rfl) rfl ?_ ?_
  rotate_left
  ·go_simp
   rfl
  refine hK.out _ _ ⟨((cell_far (p := ⟨gb196, _, none⟩) NB211_196.out _).trans ((sqfa NB211_196 (hHeld.1)))), ((cell_far (p := ⟨gb196, _, none⟩) NB211_196.out _).trans ((sqfa NB211_196 (hHeld.2))))⟩ (fun hHeld => ?_)
  clear hK K
  refine pure_ (i := 5) (N := some 3) (v := ?_) (a' := ?_) #[true, true, true, true, true, true] rfl rfl (by kernel_rfl) (fun _ _ _ h => h) (Or.inl ⟨by rfl, ?_⟩) ?_ ?_
  rotate_left
  ·intro w'
   go_simp
   with_reducible rfl
  rotate_left
  ·simp only [Act.put, List.setIfInBounds_toArray, List.set_cons_zero, List.set_cons_succ, i64_w, i32_w]
   rfl
  refine done_ (by kernel_rfl) ?_
  try go_wp2
  refine bodyPost_ret (results_ct rfl _ _ gb196 41 #[.int .i64 t206, .slice Ao19 t207.length co19] (0, 0) _ rfl (by refine sqt ?_; refine blk_put (cs := #[.int .i64 t206, .slice none 0 0]) ?_ 1 _ rfl; refine sqt ?_; refine blk_put (cs := #[.int .i64 0, .slice none 0 0]) ?_ 0 _ rfl; refine sqt ?_; exact BK196.out) Try.underlying41 rfl (by kernel_rfl)) rfl ?_
  exact ⟨_, _, by first | rfl | (simp [errW_none, errW_some] <;> rfl) | (simp [*, errW_none, errW_some] <;> rfl), by (with_reducible repeat (first | apply Kd.R_alloc | apply Kd.R_drewN | apply Kd.R_drew)); exact Kd.R_mono (Kd.R_far (p := ⟨gb196, 1, none⟩) (Kd.R_far (p := ⟨gb196, 0, none⟩) (Kd.R_types HO209.out BK196.out (by decide)) (fun _ hk => hk.2) (.int .i64 t206)) (fun _ hk => hk.2) (.slice Ao19 t207.length co19)) (fun _ hk => hk.1.2), by (with_reducible repeat (first | apply Kd.R_alloc | apply Kd.R_drewN | apply Kd.R_drew)); exact Kd.R_mono (Kd.R_far (p := ⟨gb196, 1, none⟩) (Kd.R_far (p := ⟨gb196, 0, none⟩) (Kd.R_types HO216.out BK196.out (by decide)) (fun _ hk => hk.2) (.int .i64 t206)) (fun _ hk => hk.2) (.slice Ao19 t207.length co19)) (fun _ hk => hk.1.2), by repeat (first | (with_reducible first | exact HB.out | apply below_alloc | apply pw_below_drewN | apply below_drew1 | refine below_set ?_ (IsS161.ge HI199.out) | refine below_set ?_ GE196.out | refine below_set ?_ GE211.out) | exact HB.out)⟩
 have c7b0 : (t212 == 0) = false := beq_eq_false_iff_ne.mpr c7
 have c7b1 : (t212 != 0) = true := bne_iff_ne.mpr c7
 replace H := sqi H
 rcases H with ⟨c25, H⟩ | ⟨c25, H⟩
 ·have c25b0 : (t212 == 1) = false := beq_eq_false_iff_ne.mpr c25
  have c25b1 : (t212 != 1) = true := bne_iff_ne.mpr c25
  replace H := sqbi H
  obtain ⟨⟨t221, t222, t225⟩, A43, H⟩ := H
  replace H : (some (t221, t222, t202)) = some (r1, r2, r3) := H
  simp only [Option.some.injEq, Prod.mk.injEq] at H
  obtain ⟨rfl, rfl, rfl⟩ := H
  go_enter Try.func24, Try.ntmps24
  go_wp2_with (first | ((with_reducible refine gate_dst (N := 2) rfl ?_); refine sqx 2 #[.int .i64 0, .slice none 0 0] 41 ?_; intro gb196 hg w44 hbox hb; have BK196 := Aside0.mk hbox; have GW196 := sqg HB hg; have GE196 := sqg HB hg; replace HB := sqs HB hb; clear hb hbox hg) | ((with_reducible refine gate_callee (f := 92) rfl ?_); refine sqL (some 10) Try.func92 #[.slice A0 l0.length c0] ?_; (with_reducible refine (spec_l1Open.calls _ _ l0 t197 t198 w _ ?side1 ?side2 ?side3 A2.out).mono ?_); (case side1 => repeat (first | (with_reducible first | exact HB.out | apply below_alloc | apply pw_below_drewN | apply below_drew1 | refine below_set ?_ GE196.out) | exact HB.out)); (case side2 => exact HR0.out); (case side3 => exact HC0.out); rintro e w45 ⟨g199, rfl, hi, hb, hb2⟩; refine ⟨_, rfl, ?_⟩; have n0_ := Aside0.mk (blk_below (g := gb196) (o := .cells #[.int .i64 0, .slice none 0 0] 41 (0, 0)) (sqt BK196.out) hb2); have n1_ := Aside0.mk (hb); have n2_ := Aside0.mk (hi); have n3_ := Aside0.mk (IsS161.ne_blk hi (blk_below (g := gb196) (o := .cells #[.int .i64 0, .slice none 0 0] 41 (0, 0)) (sqt BK196.out) hb2) (by decide)); have n4_ := Aside0.mk (Ne.symm (IsS161.ne_blk hi (blk_below (g := gb196) (o := .cells #[.int .i64 0, .slice none 0 0] 41 (0, 0)) (sqt BK196.out) hb2) (by decide))); clear BK196; clear HB; have BK196 := n0_; have HB := n1_; have HI199 := n2_; have NB199_196 := n3_; have NB196_199 := n4_; clear n0_ n1_ n2_ n3_ n4_; (try clear hb); (try clear hb2); (try clear hk); (try clear hi)) | ((with_reducible refine gate_callee (f := 106) rfl ?_); refine sqL (some 12) Try.func106 #[.pointer (some ⟨g199, 0, none⟩)] ?_; (with_reducible refine (spec_l11Size.calls k g199 t197 t198 t200 t201 w _ ?side1 ?side2 A3.out).mono ?_); (case side1 => repeat (first | (with_reducible first | exact HI199.out | apply IsS161.alloc | apply IsS161.drewN | apply IsS161.drew | apply IsS161.set_1 | refine IsS161.far ?_ NB199_196.out _) | exact HI199.out)); (case side2 => repeat (first | (with_reducible first | exact HB.out | apply below_alloc | apply pw_below_drewN | apply below_drew1 | refine below_set ?_ (IsS161.ge HI199.out) | refine below_set ?_ GE196.out) | exact HB.out)); rintro e w46 ⟨rfl, hi, hb, hk⟩; refine ⟨_, rfl, ?_⟩; have n0_ := Aside0.mk (KeepBut.blk hk (g' := gb196) (o := .cells #[.int .i64 0, .slice none 0 0] 41 (0, 0)) (sqt BK196.out) NB196_199.out (by simp)); have n1_ := Aside0.mk (hb); have n2_ := Aside0.mk (hi); clear BK196; clear HB; clear HI199; have BK196 := n0_; have HB := n1_; have HI199 := n2_; clear n0_ n1_ n2_; (try clear hb); (try clear hb2); (try clear hk); (try clear hi)) | ((with_reducible refine gate_callee (f := 107) rfl ?_); refine sqL (some 15) Try.func107 #[.pointer (some ⟨g199, 0, none⟩), .int .i64 t200] ?_; (with_reducible refine (spec_l11Numbers.calls k g199 t197 t201 t200 t202 t205 w _ ?side1 ?side2 A4.out).mono ?_); (case side1 => repeat (first | (with_reducible first | exact HI199.out | apply IsS161.alloc | apply IsS161.drewN | apply IsS161.drew | apply IsS161.set_1 | refine IsS161.far ?_ NB199_196.out _) | exact HI199.out)); (case side2 => repeat (first | (with_reducible first | exact HB.out | apply below_alloc | apply pw_below_drewN | apply below_drew1 | refine below_set ?_ (IsS161.ge HI199.out) | refine below_set ?_ GE196.out) | exact HB.out)); rintro e w47 ⟨v203, rfl, ho0, hi, hb, hk⟩; refine ⟨_, rfl, ?_⟩; have n0_ := Aside0.mk (KeepBut.blk hk (g' := gb196) (o := .cells #[.int .i64 0, .slice none 0 0] 41 (0, 0)) (sqt BK196.out) NB196_199.out (by simp)); have n1_ := Aside0.mk (Kd.R_lower ho0 (below_size (by repeat (first | (with_reducible first | exact HB.out | apply below_alloc | apply pw_below_drewN | apply below_drew1 | refine below_set ?_ (IsS161.ge HI199.out) | refine below_set ?_ GE196.out) | exact HB.out)))); have n2_ := Aside0.mk (hb); have n3_ := Aside0.mk (hi); clear BK196; clear HB; clear HI199; have BK196 := n0_; have HO204 := n1_; have HB := n2_; have HI199 := n3_; clear n0_ n1_ n2_ n3_; (try clear hb); (try clear hb2); (try clear hk); (try clear hi); (try clear ho0); obtain ⟨Ao48, co48, eo48⟩ := Kd.R_slice HO204.out; subst eo48) | ((with_reducible refine gate_callee (f := 108) rfl ?_); refine sqL (some 19) Try.func108 #[.pointer (some ⟨g199, 0, none⟩), .int .i64 t200, .slice Ao48 t202.length co48] ?_; (with_reducible refine (spec_l11Gaps.calls k g199 t197 t205 t200 _ _ t202 t206 t207 t210 w _ ?side1 ?side2 ?side3 ?side4 ?side5 A5.out).mono ?_); (case side1 => repeat (first | (with_reducible first | exact HI199.out | apply IsS161.alloc | apply IsS161.drewN | apply IsS161.drew | apply IsS161.set_1 | refine IsS161.far ?_ NB199_196.out _) | exact HI199.out)); (case side2 => repeat (first | (with_reducible first | exact HB.out | apply below_alloc | apply pw_below_drewN | apply below_drew1 | refine below_set ?_ (IsS161.ge HI199.out) | refine below_set ?_ GE196.out) | exact HB.out)); (case side3 => exact sqC (Kd.R_reads' HO204.out).2.2); (case side4 => exact (Kd.R_reads' HO204.out).2.1); (case side5 => exact far_slice (IsS161.own_ne HI199.out HO204.out (by decide))); rintro e w49 ⟨v208, rfl, ho0, hi, hb, hk⟩; refine ⟨_, rfl, ?_⟩; have n0_ := Aside0.mk (KeepBut.blk hk (g' := gb196) (o := .cells #[.int .i64 0, .slice none 0 0] 41 (0, 0)) (sqt BK196.out) NB196_199.out (by simp)); have n1_ := Aside0.mk (Kd.R_mono (Kd.R_told (Kd.R_oldK (IsS161.apart (show IsS161 w _ g199 t197 t205 from by repeat (first | (with_reducible first | exact HI199.out | apply IsS161.alloc | apply IsS161.drewN | apply IsS161.drew | apply IsS161.set_1 | refine IsS161.far ?_ NB199_196.out _) | exact HI199.out)) (sqy HO204.out) (by decide)) hk) (Kd.R_base ho0)) (fun _ h_ => h_.1)); have n2_ := Aside0.mk (Kd.R_lower (Kd.R_new' ho0 (Kd.R_lt (sqy HO204.out))) (below_size (by repeat (first | (with_reducible first | exact HB.out | apply below_alloc | apply pw_below_drewN | apply below_drew1 | refine below_set ?_ (IsS161.ge HI199.out) | refine below_set ?_ GE196.out) | exact HB.out)))); have n3_ := Aside0.mk (hb); have n4_ := Aside0.mk (hi); clear BK196; clear HO204; clear HB; clear HI199; have BK196 := n0_; have HO204 := n1_; have HO209 := n2_; have HB := n3_; have HI199 := n4_; clear n0_ n1_ n2_ n3_ n4_; (try clear hb); (try clear hb2); (try clear hk); (try clear hi); (try clear ho0)) | ((with_reducible refine gate_dst (N := 7) rfl ?_); refine sqx 7 #[.int .i64 0, .slice none 0 0] 41 ?_; intro gb211 hg w50 hbox hb; have n0_ := Aside0.mk (Kd.R_below (sqy HO204.out) hb); have n1_ := Aside0.mk (Kd.R_below (sqy HO209.out) hb); have n2_ := sqb BK196 hb; have n3_ := Aside0.mk (IsS161.below (by repeat (first | (with_reducible first | exact HI199.out | apply IsS161.alloc | apply IsS161.drewN | apply IsS161.drew | apply IsS161.set_1 | refine IsS161.far ?_ NB199_196.out _) | exact HI199.out)) hb); have n4_ := Aside0.mk (below_step (by repeat (first | (with_reducible first | exact HB.out | apply below_alloc | apply pw_below_drewN | apply below_drew1 | refine below_set ?_ (IsS161.ge HI199.out) | refine below_set ?_ GE196.out) | exact HB.out)) hb); have n5_ := Aside0.mk (hbox); have n6_ := Aside0.mk ((by rw [hg]; exact (below_size (by repeat (first | (with_reducible first | exact HB.out | apply below_alloc | apply pw_below_drewN | apply below_drew1 | refine below_set ?_ (IsS161.ge HI199.out) | refine below_set ?_ GE196.out) | exact HB.out))) : w.heap.size ≤ gb211)); have n7_ := Aside0.mk ((by rw [hg]; exact (below_size (by repeat (first | (with_reducible first | exact HB.out | apply below_alloc | apply pw_below_drewN | apply below_drew1 | refine below_set ?_ (IsS161.ge HI199.out) | refine below_set ?_ GE196.out) | exact HB.out))) : w.heap.size ≤ gb211)); have n8_ := sqn BK196 hg; have n9_ := sqm BK196 hg; have n10_ := Aside0.mk ((by rw [hg]; exact Nat.ne_of_lt (IsS161.lt (show IsS161 w _ g199 t197 t210 from by repeat (first | (with_reducible first | exact HI199.out | apply IsS161.alloc | apply IsS161.drewN | apply IsS161.drew | apply IsS161.set_1 | refine IsS161.far ?_ NB199_196.out _) | exact HI199.out))) : g199 ≠ gb211)); have n11_ := Aside0.mk ((by rw [hg]; exact Nat.ne_of_gt (IsS161.lt (show IsS161 w _ g199 t197 t210 from by repeat (first | (with_reducible first | exact HI199.out | apply IsS161.alloc | apply IsS161.drewN | apply IsS161.drew | apply IsS161.set_1 | refine IsS161.far ?_ NB199_196.out _) | exact HI199.out))) : gb211 ≠ g199)); clear HO204; clear HO209; clear BK196; clear HI199; clear HB; have HO204 := n0_; have HO209 := n1_; have BK196 := n2_; have HI199 := n3_; have HB := n4_; have BK211 := n5_; have GW211 := n6_; have GE211 := n7_; have NB196_211 := n8_; have NB211_196 := n9_; have NB199_211 := n10_; have NB211_199 := n11_; clear n0_ n1_ n2_ n3_ n4_ n5_ n6_ n7_ n8_ n9_ n10_ n11_; clear hb hbox hg; have hnb51 := NB211_196.out; have hnc51 := NB196_211.out; have hnb52 := NB211_199.out; have hnc52 := NB199_211.out; obtain ⟨hcz53_0, hcz53_1, hfz53_0, hfz53_1⟩ := sqc2 BK211; obtain ⟨Ao54, co54, eo54⟩ := Kd.R_slice HO209.out; subst eo54) | ((with_reducible refine gate_callee (f := 109) rfl ?_); refine sqL (some 21) Try.func109 #[.pointer (some ⟨g199, 0, none⟩), .int .i64 8] ?_; (with_reducible refine (spec_l1Rd_pick.calls k g199 t197 t210 8 t212 t213 w _ ?side1 ?side2 A6.out).mono ?_); (case side1 => repeat (first | (with_reducible first | exact HI199.out | apply IsS161.alloc | apply IsS161.drewN | apply IsS161.drew | apply IsS161.set_1 | refine IsS161.far ?_ NB199_196.out _ | refine IsS161.far ?_ NB199_211.out _) | exact HI199.out)); (case side2 => repeat (first | (with_reducible first | exact HB.out | apply below_alloc | apply pw_below_drewN | apply below_drew1 | refine below_set ?_ (IsS161.ge HI199.out) | refine below_set ?_ GE196.out | refine below_set ?_ GE211.out) | exact HB.out)); rintro e w55 ⟨rfl, hi, hb, hk⟩; refine ⟨_, rfl, ?_⟩; have n0_ := Aside0.mk (KeepBut.blk hk (g' := gb196) (o := .cells #[.int .i64 0, .slice none 0 0] 41 (0, 0)) (by refine sqt ?_; refine blk_far ?_ NB196_211.out _; refine sqt ?_; refine blk_far ?_ NB196_211.out _; refine sqt ?_; exact BK196.out) NB196_199.out (by simp)); have n1_ := Aside0.mk (Kd.R_mono (Kd.R_keep (IsS161.apart (show IsS161 w _ g199 t197 t210 from by repeat (first | (with_reducible first | exact HI199.out | apply IsS161.alloc | apply IsS161.drewN | apply IsS161.drew | apply IsS161.set_1 | refine IsS161.far ?_ NB199_196.out _ | refine IsS161.far ?_ NB199_211.out _) | exact HI199.out)) (by (with_reducible repeat (first | apply Kd.R_alloc | apply Kd.R_drewN | apply Kd.R_drew)); exact (Kd.R_mono (Kd.R_far (p := ⟨gb211, 1, none⟩) (Kd.R_far (p := ⟨gb211, 0, none⟩) (Kd.R_types HO204.out BK211.out (by decide)) (fun _ hk => hk.2) (.int .i64 t206)) (fun _ hk => hk.2) (.slice Ao54 t207.length co54)) (fun _ h_ => h_.1))) (by decide)) hk (fun _ h => h.2)) (fun _ h => h.1)); have n2_ := Aside0.mk (Kd.R_mono (Kd.R_keep (IsS161.apart (show IsS161 w _ g199 t197 t210 from by repeat (first | (with_reducible first | exact HI199.out | apply IsS161.alloc | apply IsS161.drewN | apply IsS161.drew | apply IsS161.set_1 | refine IsS161.far ?_ NB199_196.out _ | refine IsS161.far ?_ NB199_211.out _) | exact HI199.out)) (by (with_reducible repeat (first | apply Kd.R_alloc | apply Kd.R_drewN | apply Kd.R_drew)); exact (Kd.R_mono (Kd.R_far (p := ⟨gb211, 1, none⟩) (Kd.R_far (p := ⟨gb211, 0, none⟩) (Kd.R_types HO209.out BK211.out (by decide)) (fun _ hk => hk.2) (.int .i64 t206)) (fun _ hk => hk.2) (.slice Ao54 t207.length co54)) (fun _ h_ => h_.1))) (by decide)) hk (fun _ h => h.2)) (fun _ h => h.1)); have n3_ := Aside0.mk (KeepBut.blk hk (g' := gb211) (o := .cells #[.int .i64 t206, .slice Ao54 t207.length co54] 41 (0, 0)) (by refine sqt ?_; refine blk_put (cs := #[.int .i64 t206, .slice none 0 0]) ?_ 1 _ rfl; refine sqt ?_; refine blk_put (cs := #[.int .i64 0, .slice none 0 0]) ?_ 0 _ rfl; refine sqt ?_; exact BK211.out) NB211_199.out (by simp)); have n4_ := Aside0.mk (hb); have n5_ := Aside0.mk (hi); clear BK196; clear HO204; clear HO209; clear BK211; clear HB; clear HI199; have BK196 := n0_; have HO204 := n1_; have HO209 := n2_; have BK211 := n3_; have HB := n4_; have HI199 := n5_; clear n0_ n1_ n2_ n3_ n4_ n5_; (try clear hb); (try clear hb2); (try clear hk); (try clear hi); obtain ⟨hcz56_0, hcz56_1, hfz56_0, hfz56_1⟩ := sqc2 BK211) | ((with_reducible refine gate_callee (f := 110) rfl ?_); refine sqL (some 36) Try.func110 #[.pointer (some ⟨g199, 0, none⟩), .agg #[.int .i64 t206, .slice Ao54 t207.length co54]] ?_; (with_reducible refine (spec_l11Spoilt.calls k g199 t197 t213 t206 (fun k_ => some k_ = (.slice Ao54 t207.length co54 : Value).ownBlock) (.slice Ao54 t207.length co54) t207 t221 t222 t225 w _ ?side1 ?side2 ?side3 A43.out).mono ?_); (case side1 => repeat (first | (with_reducible first | exact HI199.out | apply IsS161.alloc | apply IsS161.drewN | apply IsS161.drew | apply IsS161.set_1 | refine IsS161.far ?_ NB199_196.out _ | refine IsS161.far ?_ NB199_211.out _) | exact HI199.out)); (case side2 => repeat (first | (with_reducible first | exact HB.out | apply below_alloc | apply pw_below_drewN | apply below_drew1 | refine below_set ?_ (IsS161.ge HI199.out) | refine below_set ?_ GE196.out | refine below_set ?_ GE211.out) | exact HB.out)); (case side3 => exact Kd.R_tight rfl HO209.out); rintro e w57 ⟨v223, rfl, ho0, hi, hb, hkp⟩; refine ⟨_, rfl, ?_⟩; have n0_ := Aside0.mk (blk_kept (sqt BK196.out) hkp (fun hs_ => Or.elim hs_ (fun hs_ => (fun e_ => (Kd.R_ne HO209.out BK196.out (by decide)) e_) hs_) (fun e_ => NB196_199.out e_))); have n1_ := Aside0.mk (hi); have n2_ := Aside0.mk (Kd.R_mono (ok' := fun k_ => some k_ ≠ (v223 : Value).ownBlock) (Kd.R_keptB ((IsS161.apart HI199.out HO204.out (by decide))) hkp (fun k_ hk_ hs_ => Or.elim hs_ (fun hs_ => (hk_.1.2) hs_) (fun e_ => (hk_.2) e_))) (fun k_ hk_ => fun e_ => Or.elim (ho0.1 k_ e_.symm) (fun hs_ => by first | exact hk_.2.1 hs_ | exact hk_.2.1 (.inl hs_)) (fun hn_ => Nat.not_le.2 hk_.2.2 hn_))); have n3_ := Aside0.mk (blk_kept (sqt BK211.out) hkp (fun hs_ => Or.elim hs_ (fun hs_ => (fun e_ => (Kd.R_ne HO209.out BK211.out (by decide)) e_) hs_) (fun e_ => NB211_199.out e_))); have n4_ := Aside0.mk (Kd.R_mono (ok' := fun k_ => some k_ ≠ (.slice Ao48 t202.length co48 : Value).ownBlock) ho0 (fun k_ hk_ => Or.elim hk_ (fun hs_ => fun e_ => ((((IsS161.apart HI199.out HO204.out (by decide))).1 k_ e_.symm).1.2) hs_) (fun hn_ => (Kd.fresh' (Kd.R_lt (sqy HO204.out)) k_ hn_)))); have n5_ := Aside0.mk (hb); clear BK196; clear HI199; clear HO204; clear BK211; clear HB; clear HO209; have BK196 := n0_; have HI199 := n1_; have HO204 := n2_; have BK211 := n3_; have HO224 := n4_; have HB := n5_; clear n0_ n1_ n2_ n3_ n4_ n5_; (try clear hb); (try clear hkp); (try clear ho0); have hnb58 := NB196_199.out; have hnc58 := NB199_196.out; obtain ⟨hcz59_0, hcz59_1, hfz59_0, hfz59_1⟩ := sqc2 BK196; obtain ⟨Ao60, co60, eo60⟩ := Kd.R_slice HO224.out; subst eo60))
  refine bodyPost_ret (results_ct rfl _ _ gb196 41 #[.int .i64 t221, .slice Ao60 t222.length co60] (0, 0) _ rfl (by refine sqt ?_; refine blk_put (cs := #[.int .i64 t221, .slice none 0 0]) ?_ 1 _ rfl; refine sqt ?_; refine blk_put (cs := #[.int .i64 0, .slice none 0 0]) ?_ 0 _ rfl; refine sqt ?_; exact BK196.out) Try.underlying41 rfl (by kernel_rfl)) rfl ?_
  exact ⟨_, _, by first | rfl | (simp [errW_none, errW_some] <;> rfl) | (simp [*, errW_none, errW_some] <;> rfl), by (with_reducible repeat (first | apply Kd.R_alloc | apply Kd.R_drewN | apply Kd.R_drew)); exact Kd.R_mono (Kd.R_far (p := ⟨gb196, 1, none⟩) (Kd.R_far (p := ⟨gb196, 0, none⟩) (Kd.R_types HO224.out BK196.out (by decide)) (fun _ hk => hk.2) (.int .i64 t221)) (fun _ hk => hk.2) (.slice Ao60 t222.length co60)) (fun _ hk => hk.1), by (with_reducible repeat (first | apply Kd.R_alloc | apply Kd.R_drewN | apply Kd.R_drew)); exact Kd.R_mono (Kd.R_far (p := ⟨gb196, 1, none⟩) (Kd.R_far (p := ⟨gb196, 0, none⟩) (Kd.R_types HO204.out BK196.out (by decide)) (fun _ hk => hk.2) (.int .i64 t221)) (fun _ hk => hk.2) (.slice Ao60 t222.length co60)) (fun _ hk => hk.1), by repeat (first | (with_reducible first | exact HB.out | apply below_alloc | apply pw_below_drewN | apply below_drew1 | refine below_set ?_ (IsS161.ge HI199.out) | refine below_set ?_ GE196.out | refine below_set ?_ GE211.out) | exact HB.out)⟩
 have c25b0 : (t212 == 1) = true := beq_iff_eq.mpr c25
 have c25b1 : (t212 != 1) = false := bne_eq_false_iff_eq.mpr c25
 clear c25
 replace H := sqi H
 rcases H with ⟨c26, H⟩ | ⟨c26, H⟩
 ·exact absurd H (by simp)
 have LMc26 := Aside0.mk c26
 clear c26
 obtain ⟨y218, hy218⟩ : ∃ y_ : List Int, y_ = (t202 ++ [0]) := ⟨_, rfl⟩
 replace H : (some (t206, t207, y218)) = some (r1, r2, r3) := by first | (rw [hy218]; with_reducible exact H) | (have H2_ := (Option.bind_some _ _).symm.trans H; rw [hy218]; with_reducible exact H2_) | (have H2_ := (Option.bind_some _ _).symm.trans H; with_reducible exact H2_) | with_reducible exact H | (rw [hy218]; exact H) | exact H
 have Ny218 := Aside0.mk hy218
 clear hy218
 simp only [Option.some.injEq, Prod.mk.injEq] at H
 obtain ⟨rfl, rfl, rfl⟩ := H
 go_enter Try.func24, Try.ntmps24
 try go_wp2_with (first | ((with_reducible refine gate_dst (N := 2) rfl ?_); refine sqx 2 #[.int .i64 0, .slice none 0 0] 41 ?_; intro gb196 hg w27 hbox hb; have BK196 := Aside0.mk hbox; have GW196 := sqg HB hg; have GE196 := sqg HB hg; replace HB := sqs HB hb; clear hb hbox hg) | ((with_reducible refine gate_callee (f := 92) rfl ?_); refine sqL (some 10) Try.func92 #[.slice A0 l0.length c0] ?_; (with_reducible refine (spec_l1Open.calls _ _ l0 t197 t198 w _ ?side1 ?side2 ?side3 A2.out).mono ?_); (case side1 => repeat (first | (with_reducible first | exact HB.out | apply below_alloc | apply pw_below_drewN | apply below_drew1 | refine below_set ?_ GE196.out) | exact HB.out)); (case side2 => exact HR0.out); (case side3 => exact HC0.out); rintro e w28 ⟨g199, rfl, hi, hb, hb2⟩; refine ⟨_, rfl, ?_⟩; have n0_ := Aside0.mk (blk_below (g := gb196) (o := .cells #[.int .i64 0, .slice none 0 0] 41 (0, 0)) (sqt BK196.out) hb2); have n1_ := Aside0.mk (hb); have n2_ := Aside0.mk (hi); have n3_ := Aside0.mk (IsS161.ne_blk hi (blk_below (g := gb196) (o := .cells #[.int .i64 0, .slice none 0 0] 41 (0, 0)) (sqt BK196.out) hb2) (by decide)); have n4_ := Aside0.mk (Ne.symm (IsS161.ne_blk hi (blk_below (g := gb196) (o := .cells #[.int .i64 0, .slice none 0 0] 41 (0, 0)) (sqt BK196.out) hb2) (by decide))); clear BK196; clear HB; have BK196 := n0_; have HB := n1_; have HI199 := n2_; have NB199_196 := n3_; have NB196_199 := n4_; clear n0_ n1_ n2_ n3_ n4_; (try clear hb); (try clear hb2); (try clear hk); (try clear hi)) | ((with_reducible refine gate_callee (f := 106) rfl ?_); refine sqL (some 12) Try.func106 #[.pointer (some ⟨g199, 0, none⟩)] ?_; (with_reducible refine (spec_l11Size.calls k g199 t197 t198 t200 t201 w _ ?side1 ?side2 A3.out).mono ?_); (case side1 => repeat (first | (with_reducible first | exact HI199.out | apply IsS161.alloc | apply IsS161.drewN | apply IsS161.drew | apply IsS161.set_1 | refine IsS161.far ?_ NB199_196.out _) | exact HI199.out)); (case side2 => repeat (first | (with_reducible first | exact HB.out | apply below_alloc | apply pw_below_drewN | apply below_drew1 | refine below_set ?_ (IsS161.ge HI199.out) | refine below_set ?_ GE196.out) | exact HB.out)); rintro e w29 ⟨rfl, hi, hb, hk⟩; refine ⟨_, rfl, ?_⟩; have n0_ := Aside0.mk (KeepBut.blk hk (g' := gb196) (o := .cells #[.int .i64 0, .slice none 0 0] 41 (0, 0)) (sqt BK196.out) NB196_199.out (by simp)); have n1_ := Aside0.mk (hb); have n2_ := Aside0.mk (hi); clear BK196; clear HB; clear HI199; have BK196 := n0_; have HB := n1_; have HI199 := n2_; clear n0_ n1_ n2_; (try clear hb); (try clear hb2); (try clear hk); (try clear hi)) | ((with_reducible refine gate_callee (f := 107) rfl ?_); refine sqL (some 15) Try.func107 #[.pointer (some ⟨g199, 0, none⟩), .int .i64 t200] ?_; (with_reducible refine (spec_l11Numbers.calls k g199 t197 t201 t200 t202 t205 w _ ?side1 ?side2 A4.out).mono ?_); (case side1 => repeat (first | (with_reducible first | exact HI199.out | apply IsS161.alloc | apply IsS161.drewN | apply IsS161.drew | apply IsS161.set_1 | refine IsS161.far ?_ NB199_196.out _) | exact HI199.out)); (case side2 => repeat (first | (with_reducible first | exact HB.out | apply below_alloc | apply pw_below_drewN | apply below_drew1 | refine below_set ?_ (IsS161.ge HI199.out) | refine below_set ?_ GE196.out) | exact HB.out)); rintro e w30 ⟨v203, rfl, ho0, hi, hb, hk⟩; refine ⟨_, rfl, ?_⟩; have n0_ := Aside0.mk (KeepBut.blk hk (g' := gb196) (o := .cells #[.int .i64 0, .slice none 0 0] 41 (0, 0)) (sqt BK196.out) NB196_199.out (by simp)); have n1_ := Aside0.mk (Kd.R_lower ho0 (below_size (by repeat (first | (with_reducible first | exact HB.out | apply below_alloc | apply pw_below_drewN | apply below_drew1 | refine below_set ?_ (IsS161.ge HI199.out) | refine below_set ?_ GE196.out) | exact HB.out)))); have n2_ := Aside0.mk (hb); have n3_ := Aside0.mk (hi); clear BK196; clear HB; clear HI199; have BK196 := n0_; have HO204 := n1_; have HB := n2_; have HI199 := n3_; clear n0_ n1_ n2_ n3_; (try clear hb); (try clear hb2); (try clear hk); (try clear hi); (try clear ho0); obtain ⟨Ao31, co31, eo31⟩ := Kd.R_slice HO204.out; subst eo31) | ((with_reducible refine gate_callee (f := 108) rfl ?_); refine sqL (some 19) Try.func108 #[.pointer (some ⟨g199, 0, none⟩), .int .i64 t200, .slice Ao31 t202.length co31] ?_; (with_reducible refine (spec_l11Gaps.calls k g199 t197 t205 t200 _ _ t202 t206 t207 t210 w _ ?side1 ?side2 ?side3 ?side4 ?side5 A5.out).mono ?_); (case side1 => repeat (first | (with_reducible first | exact HI199.out | apply IsS161.alloc | apply IsS161.drewN | apply IsS161.drew | apply IsS161.set_1 | refine IsS161.far ?_ NB199_196.out _) | exact HI199.out)); (case side2 => repeat (first | (with_reducible first | exact HB.out | apply below_alloc | apply pw_below_drewN | apply below_drew1 | refine below_set ?_ (IsS161.ge HI199.out) | refine below_set ?_ GE196.out) | exact HB.out)); (case side3 => exact sqC (Kd.R_reads' HO204.out).2.2); (case side4 => exact (Kd.R_reads' HO204.out).2.1); (case side5 => exact far_slice (IsS161.own_ne HI199.out HO204.out (by decide))); rintro e w32 ⟨v208, rfl, ho0, hi, hb, hk⟩; refine ⟨_, rfl, ?_⟩; have n0_ := Aside0.mk (KeepBut.blk hk (g' := gb196) (o := .cells #[.int .i64 0, .slice none 0 0] 41 (0, 0)) (sqt BK196.out) NB196_199.out (by simp)); have n1_ := Aside0.mk (Kd.R_mono (Kd.R_told (Kd.R_oldK (IsS161.apart (show IsS161 w _ g199 t197 t205 from by repeat (first | (with_reducible first | exact HI199.out | apply IsS161.alloc | apply IsS161.drewN | apply IsS161.drew | apply IsS161.set_1 | refine IsS161.far ?_ NB199_196.out _) | exact HI199.out)) (sqy HO204.out) (by decide)) hk) (Kd.R_base ho0)) (fun _ h_ => h_.1)); have n2_ := Aside0.mk (Kd.R_lower (Kd.R_new' ho0 (Kd.R_lt (sqy HO204.out))) (below_size (by repeat (first | (with_reducible first | exact HB.out | apply below_alloc | apply pw_below_drewN | apply below_drew1 | refine below_set ?_ (IsS161.ge HI199.out) | refine below_set ?_ GE196.out) | exact HB.out)))); have n3_ := Aside0.mk (hb); have n4_ := Aside0.mk (hi); clear BK196; clear HO204; clear HB; clear HI199; have BK196 := n0_; have HO204 := n1_; have HO209 := n2_; have HB := n3_; have HI199 := n4_; clear n0_ n1_ n2_ n3_ n4_; (try clear hb); (try clear hb2); (try clear hk); (try clear hi); (try clear ho0)) | ((with_reducible refine gate_dst (N := 7) rfl ?_); refine sqx 7 #[.int .i64 0, .slice none 0 0] 41 ?_; intro gb211 hg w33 hbox hb; have n0_ := Aside0.mk (Kd.R_below (sqy HO204.out) hb); have n1_ := Aside0.mk (Kd.R_below (sqy HO209.out) hb); have n2_ := sqb BK196 hb; have n3_ := Aside0.mk (IsS161.below (by repeat (first | (with_reducible first | exact HI199.out | apply IsS161.alloc | apply IsS161.drewN | apply IsS161.drew | apply IsS161.set_1 | refine IsS161.far ?_ NB199_196.out _) | exact HI199.out)) hb); have n4_ := Aside0.mk (below_step (by repeat (first | (with_reducible first | exact HB.out | apply below_alloc | apply pw_below_drewN | apply below_drew1 | refine below_set ?_ (IsS161.ge HI199.out) | refine below_set ?_ GE196.out) | exact HB.out)) hb); have n5_ := Aside0.mk (hbox); have n6_ := Aside0.mk ((by rw [hg]; exact (below_size (by repeat (first | (with_reducible first | exact HB.out | apply below_alloc | apply pw_below_drewN | apply below_drew1 | refine below_set ?_ (IsS161.ge HI199.out) | refine below_set ?_ GE196.out) | exact HB.out))) : w.heap.size ≤ gb211)); have n7_ := Aside0.mk ((by rw [hg]; exact (below_size (by repeat (first | (with_reducible first | exact HB.out | apply below_alloc | apply pw_below_drewN | apply below_drew1 | refine below_set ?_ (IsS161.ge HI199.out) | refine below_set ?_ GE196.out) | exact HB.out))) : w.heap.size ≤ gb211)); have n8_ := sqn BK196 hg; have n9_ := sqm BK196 hg; have n10_ := Aside0.mk ((by rw [hg]; exact Nat.ne_of_lt (IsS161.lt (show IsS161 w _ g199 t197 t210 from by repeat (first | (with_reducible first | exact HI199.out | apply IsS161.alloc | apply IsS161.drewN | apply IsS161.drew | apply IsS161.set_1 | refine IsS161.far ?_ NB199_196.out _) | exact HI199.out))) : g199 ≠ gb211)); have n11_ := Aside0.mk ((by rw [hg]; exact Nat.ne_of_gt (IsS161.lt (show IsS161 w _ g199 t197 t210 from by repeat (first | (with_reducible first | exact HI199.out | apply IsS161.alloc | apply IsS161.drewN | apply IsS161.drew | apply IsS161.set_1 | refine IsS161.far ?_ NB199_196.out _) | exact HI199.out))) : gb211 ≠ g199)); clear HO204; clear HO209; clear BK196; clear HI199; clear HB; have HO204 := n0_; have HO209 := n1_; have BK196 := n2_; have HI199 := n3_; have HB := n4_; have BK211 := n5_; have GW211 := n6_; have GE211 := n7_; have NB196_211 := n8_; have NB211_196 := n9_; have NB199_211 := n10_; have NB211_199 := n11_; clear n0_ n1_ n2_ n3_ n4_ n5_ n6_ n7_ n8_ n9_ n10_ n11_; clear hb hbox hg; have hnb34 := NB211_196.out; have hnc34 := NB196_211.out; have hnb35 := NB211_199.out; have hnc35 := NB199_211.out; obtain ⟨hcz36_0, hcz36_1, hfz36_0, hfz36_1⟩ := sqc2 BK211; obtain ⟨Ao37, co37, eo37⟩ := Kd.R_slice HO209.out; subst eo37) | ((with_reducible refine gate_callee (f := 109) rfl ?_); refine sqL (some 21) Try.func109 #[.pointer (some ⟨g199, 0, none⟩), .int .i64 8] ?_; (with_reducible refine (spec_l1Rd_pick.calls k g199 t197 t210 8 t212 t213 w _ ?side1 ?side2 A6.out).mono ?_); (case side1 => repeat (first | (with_reducible first | exact HI199.out | apply IsS161.alloc | apply IsS161.drewN | apply IsS161.drew | apply IsS161.set_1 | refine IsS161.far ?_ NB199_196.out _ | refine IsS161.far ?_ NB199_211.out _) | exact HI199.out)); (case side2 => repeat (first | (with_reducible first | exact HB.out | apply below_alloc | apply pw_below_drewN | apply below_drew1 | refine below_set ?_ (IsS161.ge HI199.out) | refine below_set ?_ GE196.out | refine below_set ?_ GE211.out) | exact HB.out)); rintro e w38 ⟨rfl, hi, hb, hk⟩; refine ⟨_, rfl, ?_⟩; have n0_ := Aside0.mk (KeepBut.blk hk (g' := gb196) (o := .cells #[.int .i64 0, .slice none 0 0] 41 (0, 0)) (by refine sqt ?_; refine blk_far ?_ NB196_211.out _; refine sqt ?_; refine blk_far ?_ NB196_211.out _; refine sqt ?_; exact BK196.out) NB196_199.out (by simp)); have n1_ := Aside0.mk (Kd.R_mono (Kd.R_keep (IsS161.apart (show IsS161 w _ g199 t197 t210 from by repeat (first | (with_reducible first | exact HI199.out | apply IsS161.alloc | apply IsS161.drewN | apply IsS161.drew | apply IsS161.set_1 | refine IsS161.far ?_ NB199_196.out _ | refine IsS161.far ?_ NB199_211.out _) | exact HI199.out)) (by (with_reducible repeat (first | apply Kd.R_alloc | apply Kd.R_drewN | apply Kd.R_drew)); exact (Kd.R_mono (Kd.R_far (p := ⟨gb211, 1, none⟩) (Kd.R_far (p := ⟨gb211, 0, none⟩) (Kd.R_types HO204.out BK211.out (by decide)) (fun _ hk => hk.2) (.int .i64 t206)) (fun _ hk => hk.2) (.slice Ao37 t207.length co37)) (fun _ h_ => h_.1))) (by decide)) hk (fun _ h => h.2)) (fun _ h => h.1)); have n2_ := Aside0.mk (Kd.R_mono (Kd.R_keep (IsS161.apart (show IsS161 w _ g199 t197 t210 from by repeat (first | (with_reducible first | exact HI199.out | apply IsS161.alloc | apply IsS161.drewN | apply IsS161.drew | apply IsS161.set_1 | refine IsS161.far ?_ NB199_196.out _ | refine IsS161.far ?_ NB199_211.out _) | exact HI199.out)) (by (with_reducible repeat (first | apply Kd.R_alloc | apply Kd.R_drewN | apply Kd.R_drew)); exact (Kd.R_mono (Kd.R_far (p := ⟨gb211, 1, none⟩) (Kd.R_far (p := ⟨gb211, 0, none⟩) (Kd.R_types HO209.out BK211.out (by decide)) (fun _ hk => hk.2) (.int .i64 t206)) (fun _ hk => hk.2) (.slice Ao37 t207.length co37)) (fun _ h_ => h_.1))) (by decide)) hk (fun _ h => h.2)) (fun _ h => h.1)); have n3_ := Aside0.mk (KeepBut.blk hk (g' := gb211) (o := .cells #[.int .i64 t206, .slice Ao37 t207.length co37] 41 (0, 0)) (by refine sqt ?_; refine blk_put (cs := #[.int .i64 t206, .slice none 0 0]) ?_ 1 _ rfl; refine sqt ?_; refine blk_put (cs := #[.int .i64 0, .slice none 0 0]) ?_ 0 _ rfl; refine sqt ?_; exact BK211.out) NB211_199.out (by simp)); have n4_ := Aside0.mk (hb); have n5_ := Aside0.mk (hi); clear BK196; clear HO204; clear HO209; clear BK211; clear HB; clear HI199; have BK196 := n0_; have HO204 := n1_; have HO209 := n2_; have BK211 := n3_; have HB := n4_; have HI199 := n5_; clear n0_ n1_ n2_ n3_ n4_ n5_; (try clear hb); (try clear hb2); (try clear hk); (try clear hi)))
 replace HO204 := Aside0.mk (Kd.R_drew HO204.out)
 replace HO209 := Aside0.mk (Kd.R_drew HO209.out)
 replace BK196 := Aside0.mk (blk_drew BK196.out)
 replace BK211 := Aside0.mk (blk_drew BK211.out)
 replace HI199 := Aside0.mk (IsS161.drew HI199.out)
 replace HB := Aside0.mk (below_drew1 HB.out)
 refine start_ (n := 6) (S := fun w' => w'.cell? ⟨gb211, 0, none⟩ = some (.int .i64 t206) ∧ w'.cell? ⟨gb211, 1, none⟩ = some (.slice Ao37 t207.length co37)) (ds := []) #[false, false, false, false, false, false] (by kernel_rfl) rfl rfl sqz (fun hHeld => ?_)
 generalize w38.drew = w39 at HO204 HO209 BK196 BK211 HI199 HB hHeld ⊢
 refine pure_ (i := 1) (N := some 31) (v := ?_) (a' := ?_) #[false, true, false, false, false, false] rfl rfl (by kernel_rfl) (fun _ _ _ h => h) (Or.inl ⟨by rfl, ?_⟩) ?_ ?_
 rotate_left
 ·intro w'
  go_simp
  with_reducible rfl
 rotate_left
 ·simp only [Act.put, List.setIfInBounds_toArray, List.set_cons_zero, List.set_cons_succ, i64_w, i32_w]
  rfl
 refine take_ (i := 0) (N := some 30) (v := ?_) (a' := ?_) #[true, true, false, false, false, false] rfl rfl (by kernel_rfl) (fun _ _ _ h => h) (Or.inl ⟨by rfl, ?_⟩) hHeld ?_ ?_
 rotate_left
 ·rintro w' ⟨s0, s1⟩
  go_simp
  with_reducible rfl
 rotate_left
 ·simp only [Act.put, List.setIfInBounds_toArray, List.set_cons_zero, List.set_cons_succ, i64_w, i32_w]
  rfl
 refine one_ (i := 2) (N := some 32) #[true, true, true, false, false, false] rfl rfl (by kernel_rfl) (by decide) (fun K hK => ?_)
 refine value_ (w1 := ?_) (v := ?_) (by rfl) rfl ?_ ?_
 rotate_left 2
 ·go_simp
  constructor
  ·rfl
  ·rfl
 refine hK.out _ _ ⟨(blk_cell (blk_alloc BK211.out _) 0).trans rfl, (blk_cell (blk_alloc BK211.out _) 1).trans rfl⟩ (fun hHeld => ?_)
 clear hK K
 refine sqnm ?_
 refine one_ (i := 3) (N := some 33) #[true, true, true, true, false, false] rfl rfl (by kernel_rfl) (by decide) (fun K hK => ?_)
 refine Kd.R_append_step (Kd.int .i64) (w0 := w) w.heap.size (by rfl) (.tmp 31) (.tmp 32) 39 3 (.int .i64 0) 8 rfl Try.underlying39 info3 rfl (by decide) (by omega) (.slice Ao31 t202.length co31) t202 0 [.int .i64 0] (fun k_ => some k_ ≠ (.slice Ao37 t207.length co37 : Value).ownBlock) (fun _ => False) rfl rfl ?aP (fun _ hk => hk.elim) ?aF ?aO ?aB ?aS ?aL ?_
 (case aP => exact rfl)
 (case aB => exact (by repeat (first | (with_reducible first | exact HB.out | apply below_alloc | apply pw_below_drewN | apply below_drew1 | refine below_set ?_ (IsS161.ge HI199.out) | refine below_set ?_ GE196.out | refine below_set ?_ GE211.out) | exact HB.out)))
 (case aF => exact (fun k_ hk => Kd.fresh' (Kd.R_lt (sqy HO209.out)) k_ hk))
 (case aO => exact (by (with_reducible repeat (first | apply Kd.R_alloc | apply Kd.R_drewN | apply Kd.R_drew)); exact Kd.R_mono HO204.out (fun _ hk => hk.2)))
 (case aS => exact (below_size (by repeat (first | (with_reducible first | exact HB.out | apply below_alloc | apply pw_below_drewN | apply below_drew1 | refine below_set ?_ (IsS161.ge HI199.out) | refine below_set ?_ GE196.out | refine below_set ?_ GE211.out) | exact HB.out))))
 (case aL => have := LMc26.out; omega)
 intro v219 w40 ho hb hg hat
 rw [← Ny218.out] at ho
 have n0_ := Aside0.mk (blk_grown (g := gb196) (o := .cells #[.int .i64 0, .slice none 0 0] 41 (0, 0)) (sqt BK196.out) hg (Kd.R_ne HO204.out BK196.out (by decide)))
 have n1_ := Aside0.mk (IsS161.grown (by repeat (first | (with_reducible first | exact HI199.out | apply IsS161.alloc | apply IsS161.drewN | apply IsS161.drew | apply IsS161.set_1 | refine IsS161.far ?_ NB199_196.out _ | refine IsS161.far ?_ NB199_211.out _) | exact HI199.out)) hg (IsS161.own_ne HI199.out HO204.out (by decide)))
 have n2_ := Aside0.mk (Kd.R_after (ok := (fun _ => True)) (sqy HO209.out) hg hat)
 have n3_ := Aside0.mk (blk_grown (g := gb211) (o := .cells #[.int .i64 t206, .slice Ao37 t207.length co37] 41 (0, 0)) (sqt BK211.out) hg (Kd.R_ne HO204.out BK211.out (by decide)))
 have n4_ := Aside0.mk (hb)
 have n5_ := Aside0.mk (ho)
 clear BK196
 clear HI199
 clear HO209
 clear BK211
 clear HB
 clear HO204
 have BK196 := n0_
 have HI199 := n1_
 have HO209 := n2_
 have BK211 := n3_
 have HB := n4_
 have HO220 := n5_
 clear n0_ n1_ n2_ n3_ n4_ n5_
 clear ho hb hg hat
 refine hK.out _ _ sqz (fun hHeld => ?_)
 clear hK K
 refine sqnm ?_
 refine one_ (i := 4) (N := none) #[true, true, true, true, true, false] rfl rfl (by kernel_rfl) (by decide) (fun K hK => ?_)
 have hs41 : w40.cell? ⟨gb196, 0, none⟩ = some (.int .i64 0) := (blk_cell BK196.out 0).trans rfl
 have hfs41 := blk_frozen BK196.out 0
 have hns41_1 := NB211_196.out
 have hms41_1 := NB196_211.out
 have hs42 : w40.cell? ⟨gb196, 1, none⟩ = some (.slice none 0 0) := (blk_cell BK196.out 1).trans rfl
 have hfs42 := blk_frozen BK196.out 1
 have hns42_1 := NB211_196.out
 have hms42_1 := NB196_211.out
 refine skip_ (w1 := ?_) (by rfl) rfl ?_ ?_
 rotate_left
 ·go_simp
  rfl
 refine hK.out _ _ ⟨((cell_far (p := ⟨gb196, _, none⟩) NB211_196.out _).trans ((sqfa NB211_196 (hHeld.1)))), ((cell_far (p := ⟨gb196, _, none⟩) NB211_196.out _).trans ((sqfa NB211_196 (hHeld.2))))⟩ (fun hHeld => ?_)
 clear hK K
 refine pure_ (i := 5) (N := some 3) (v := ?_) (a' := ?_) #[true, true, true, true, true, true] rfl rfl (by kernel_rfl) (fun _ _ _ h => h) (Or.inl ⟨by rfl, ?_⟩) ?_ ?_
 rotate_left
 ·intro w'
  go_simp
  with_reducible rfl
 rotate_left
 ·simp only [Act.put, List.setIfInBounds_toArray, List.set_cons_zero, List.set_cons_succ, i64_w, i32_w]
  rfl
 refine done_ (by kernel_rfl) ?_
 try go_wp2
 refine bodyPost_ret (results_ct rfl _ _ gb196 41 #[.int .i64 t206, .slice Ao37 t207.length co37] (0, 0) _ rfl (by refine sqt ?_; refine blk_put (cs := #[.int .i64 t206, .slice none 0 0]) ?_ 1 _ rfl; refine sqt ?_; refine blk_put (cs := #[.int .i64 0, .slice none 0 0]) ?_ 0 _ rfl; refine sqt ?_; exact BK196.out) Try.underlying41 rfl (by kernel_rfl)) rfl ?_
 exact ⟨_, _, by first | rfl | (simp [errW_none, errW_some] <;> rfl) | (simp [*, errW_none, errW_some] <;> rfl), by (with_reducible repeat (first | apply Kd.R_alloc | apply Kd.R_drewN | apply Kd.R_drew)); exact Kd.R_mono (Kd.R_far (p := ⟨gb196, 1, none⟩) (Kd.R_far (p := ⟨gb196, 0, none⟩) (Kd.R_types HO209.out BK196.out (by decide)) (fun _ hk => hk.2) (.int .i64 t206)) (fun _ hk => hk.2) (.slice Ao37 t207.length co37)) (fun _ hk => hk.1.2), by (with_reducible repeat (first | apply Kd.R_alloc | apply Kd.R_drewN | apply Kd.R_drew)); exact Kd.R_mono (Kd.R_far (p := ⟨gb196, 1, none⟩) (Kd.R_far (p := ⟨gb196, 0, none⟩) (Kd.R_types HO220.out BK196.out (by decide)) (fun _ hk => hk.2) (.int .i64 t206)) (fun _ hk => hk.2) (.slice Ao37 t207.length co37)) (fun _ hk => hk.1), by repeat (first | (with_reducible first | exact HB.out | apply below_alloc | apply pw_below_drewN | apply below_drew1 | refine below_set ?_ (IsS161.ge HI199.out) | refine below_set ?_ GE196.out | refine below_set ?_ GE211.out) | exact HB.out)⟩

/-! ### laws_sameInts: function 27 -/
set_option maxHeartbeats 8000000 in
set_option maxRecDepth 100000 in
theorem laws_sameInts.calls (k : Nat) (A0 : Option Addr) (c0 : Nat) (l0 : List Int) (A1 : Option Addr) (c1 : Nat) (l1 : List Int) (r : Bool) (w : World) (hr0 : Kd.C (Kd.int .i64) w A0 l0.length l0) (hc0 : l0.length ≤ c0) (hr1 : Kd.C (Kd.int .i64) w A1 l1.length l1) (hc1 : l1.length ≤ c1) (h : laws_sameInts.f k l0 l1 = some r) :
  Calls Try.prog 27 #[.slice A0 l0.length c0, .slice A1 l1.length c1] w fun e w' => e = .returned (.bool r) ∧ Drawn0 w w' := by
 have HR0 := Aside0.mk hr0
 have HC0 := Aside0.mk hc0
 clear hr0 hc0
 have HR1 := Aside0.mk hr1
 have HC1 := Aside0.mk hc1
 clear hr1 hc1
 have H : (if (l0.length : Int) = (l1.length : Int) then (laws_sameInts.l0 k l0 l1 0) else (some false)) = some r := h
 clear h
 replace H := sqi H
 rcases H with ⟨c3, H⟩ | ⟨c3, H⟩
 ·have c3b0 : ((l0.length : Int) == (l1.length : Int)) = false := beq_eq_false_iff_ne.mpr c3
  have c3b1 : ((l0.length : Int) != (l1.length : Int)) = true := bne_iff_ne.mpr c3
  have c3b2 : (l0.length == l1.length) = false := by first | simpa using c3 | (simp at c3 ⊢; omega)
  obtain rfl := Option.some.inj H
  go_enter Try.func27, Try.ntmps27
  go_wp2
  repeat (go_quiet (fail); try go_wp2)
  go_ret
  exact ⟨by first | rfl | (simp; done) | (simp [*]; done), by repeat (first | exact Drawn0.refl _ | apply Drawn0.step)⟩
 have c3b0 : ((l0.length : Int) == (l1.length : Int)) = true := beq_iff_eq.mpr c3
 have c3b1 : ((l0.length : Int) != (l1.length : Int)) = false := bne_eq_false_iff_eq.mpr c3
 have c3b2 : (l0.length == l1.length) = true := by first | simpa using c3 | (simp at c3 ⊢; omega)
 clear c3
 have H' := Aside0.mk H
 clear H
 go_enter Try.func27, Try.ntmps27
 go_wp2
 repeat (go_quiet (fail); try go_wp2)
 go_loopg [5] k (fun kq v5 w' => ∃ (x5_1 : Int), v5 = .int .i64 x5_1 ∧ Aside0 (laws_sameInts.l0 kq l0 l1 x5_1 = some r) ∧ Aside0 (kq ≤ k) ∧ Drawn0 w w')
 case atStart => exact ⟨(0), (by first | rfl | (simp; done) | (simp [*]; done)), H', ⟨Nat.le_refl _⟩, by repeat (first | exact Drawn0.refl _ | apply Drawn0.step)⟩
 case round =>
  clear H'
  obtain ⟨x5_1, rfl, HA, HK1, ⟨m1, rfl⟩⟩ := hrel
  cases gk with
  | zero => exact absurd HA.out (by simp [laws_sameInts.l0])
  | succ k1 =>
   have H := HA.out
   clear HA
   simp only [laws_sameInts.l0] at H
   replace H := sqi H
   rcases H with ⟨c4, H⟩ | ⟨c4, H⟩
   ·have c4b0 := decide_eq_false c4
    clear c4
    obtain rfl := Option.some.inj H
    go_wp2
    repeat (go_quiet (fail); try go_wp2)
    go_ret
    exact ⟨by first | rfl | (simp; done) | (simp [*]; done), by repeat (first | exact Drawn0.refl _ | apply Drawn0.step)⟩
   have c4b0 := decide_eq_true c4
   clear c4
   replace H := sqi H
   rcases H with ⟨c5, H⟩ | ⟨c5, H⟩
   ·exact absurd H (by simp)
   have c5b0 := decide_eq_true c5
   clear c5
   replace H := sqi H
   rcases H with ⟨c6, H⟩ | ⟨c6, H⟩
   ·exact absurd H (by simp)
   have c6b0 := decide_eq_true c6
   clear c6
   replace H := sqi H
   rcases H with ⟨c7, H⟩ | ⟨c7, H⟩
   ·have c7b0 : ((rd l0 x5_1) == (rd l1 x5_1)) = false := beq_eq_false_iff_ne.mpr c7
    have c7b1 : ((rd l0 x5_1) != (rd l1 x5_1)) = true := bne_iff_ne.mpr c7
    obtain rfl := Option.some.inj H
    have p226 : 0 ≤ (x5_1 : Int) := sqd
    have q226 : x5_1 < (l0.length : Int) := sqd
    obtain ⟨ad226, e226, hx226_0⟩ := Kd.at_int HR0.out x5_1 p226 q226
    cases e226
    replace p226 := eq_true p226
    replace q226 := eq_true q226
    have p227 : 0 ≤ (x5_1 : Int) := sqd
    have q227 : x5_1 < (l1.length : Int) := sqd
    obtain ⟨ad227, e227, hx227_0⟩ := Kd.at_int HR1.out x5_1 p227 q227
    cases e227
    replace p227 := eq_true p227
    replace q227 := eq_true q227
    go_wp2
    repeat (go_quiet (fail); try go_wp2)
    go_ret
    exact ⟨by first | rfl | (simp; done) | (simp [*]; done), by repeat (first | exact Drawn0.refl _ | apply Drawn0.step)⟩
   have c7b0 : ((rd l0 x5_1) == (rd l1 x5_1)) = true := beq_iff_eq.mpr c7
   have c7b1 : ((rd l0 x5_1) != (rd l1 x5_1)) = false := bne_eq_false_iff_eq.mpr c7
   clear c7
   have H' := Aside0.mk H
   clear H
   have p226 : 0 ≤ (x5_1 : Int) := sqd
   have q226 : x5_1 < (l0.length : Int) := sqd
   obtain ⟨ad226, e226, hx226_0⟩ := Kd.at_int HR0.out x5_1 p226 q226
   cases e226
   replace p226 := eq_true p226
   replace q226 := eq_true q226
   have p227 : 0 ≤ (x5_1 : Int) := sqd
   have q227 : x5_1 < (l1.length : Int) := sqd
   obtain ⟨ad227, e227, hx227_0⟩ := Kd.at_int HR1.out x5_1 p227 q227
   cases e227
   replace p227 := eq_true p227
   replace q227 := eq_true q227
   go_wp2
   repeat (go_quiet (fail); try go_wp2)
   go_roundg k1
   case measure => have := HK1.out; omega
   case rel => exact ⟨(wrap64 (x5_1 + 1)), (by first | rfl | (simp; done) | (simp [*]; done)), H', ⟨by have := HK1.out; omega⟩, by repeat (first | exact Drawn0.refl _ | apply Drawn0.step)⟩

/-! ### impl_Gaps_at: function 118 -/
set_option maxHeartbeats 8000000 in
set_option maxRecDepth 100000 in
theorem impl_Gaps_at.calls (a0_0 : Int) (A0_1 : Option Addr) (c0_1 : Nat) (l0_1 : List Int) (a1 : Int) (a2 : Int) (r : Int) (w : World) (hr0_1 : Kd.C (Kd.int .i64) w A0_1 l0_1.length l0_1) (hc0_1 : l0_1.length ≤ c0_1) (h : impl_Gaps_at.f a0_0 l0_1 a1 a2 = some r) :
  Calls Try.prog 118 #[.agg #[.int .i64 a0_0, .slice A0_1 l0_1.length c0_1], .int .i64 a1, .int .i64 a2] w fun e w' => e = .returned (.int .i64 r) ∧ Below w.heap.size w w' := by
 have hu41 := Try.underlying41
 have HR0_1 := Aside0.mk hr0_1
 have HC0_1 := Aside0.mk hc0_1
 clear hr0_1 hc0_1
 have HB := Aside0.mk (Below.refl w.heap.size w)
 have H : (some (wrap64 ((wrap64 (a1 * (wrap64 (a0_0 + 1)))) + a2))) = some r := h
 clear h
 obtain rfl := Option.some.inj H
 go_enter Try.func118, Try.ntmps118
 go_wp2_with (first | ((with_reducible refine gate_dst (N := 3) rfl ?_); refine sqx 3 #[.int .i64 a0_0, .slice A0_1 l0_1.length c0_1] 41 ?_; intro gb228 hg w4 hbox hb; have BK228 := Aside0.mk hbox; have GW228 := sqg HB hg; have GE228 := sqg HB hg; replace HB := sqs HB hb; clear hb hbox hg; obtain ⟨hcz5_0, hcz5_1, hfz5_0, hfz5_1⟩ := sqc2 BK228))
 go_ret
 exact sqe HB

end Go.Proofs.Ytkekcenlleebeaa.PFnGapsDo
