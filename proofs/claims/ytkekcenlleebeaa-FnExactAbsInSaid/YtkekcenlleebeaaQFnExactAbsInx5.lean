/- Functions of the program as plain Lean functions, and that calls of them come to what these tell. Conditions: those in each law. -/
import Derived.Test.YtkekcenlleebeaaSq
import Derived.Test.YtkekcenlleebeaaDFnExactAbsIn
import Derived.Test.YtkekcenlleebeaaQFnExactAbsInx0
import Derived.Test.YtkekcenlleebeaaQFnExactAbsInx4
namespace Go.Proofs.Ytkekcenlleebeaa.PFnExactAbsIn
open Go.RowKit Go.Proofs.Ytkekcenlleebeaa.Sq Go.Proofs.YtkekcenlleebeaaW.PrintWords Go.Proofs.YtkekcenlleebeaaW.PrintLast Go.Proofs.YtkekcenlleebeaaW.PrintMore
attribute [local go_sem] max2_int min2_int max_two min_two max_three min_three max_four min_four   -- for this text's walks alone
set_option linter.unusedVariables false
set_option linter.unusedSimpArgs false

/-! ### laws_toAbs: function 59 -/
set_option maxHeartbeats 8000000 in
set_option maxRecDepth 100000 in
theorem laws_toAbs.calls (k : Nat) (a0_0 : Bool) (A0_1 : Option Addr) (c0_1 : Nat) (l0_1 : List (S165)) (A0_2 : Option Addr) (c0_2 : Nat) (l0_2 : List (S167)) (A0_3 : Option Addr) (c0_3 : Nat) (l0_3 : List (S165)) (a0_4 : Int) (A0_5 : Option Addr) (c0_5 : Nat) (l0_5 : List Int) (r1 : Bool) (r2 : List (S30)) (r3 : List (S132)) (r4 : List (S30)) (r5 : Int) (r6 : List Int) (w : World) (hr0_1 : Kd.C k165 w A0_1 l0_1.length l0_1) (hc0_1 : l0_1.length ≤ c0_1) (hr0_2 : Kd.C k167 w A0_2 l0_2.length l0_2) (hc0_2 : l0_2.length ≤ c0_2) (hr0_3 : Kd.C k165 w A0_3 l0_3.length l0_3) (hc0_3 : l0_3.length ≤ c0_3) (hr0_5 : Kd.C (Kd.int .i64) w A0_5 l0_5.length l0_5) (hc0_5 : l0_5.length ≤ c0_5) (h : laws_toAbs.f k a0_0 l0_1 l0_2 l0_3 a0_4 l0_5 = some (r1, r2, r3, r4, r5, r6)) :
  Calls Try.prog 59 #[.agg #[.bool a0_0, .slice A0_1 l0_1.length c0_1, .slice A0_2 l0_2.length c0_2, .slice A0_3 l0_3.length c0_3, .int .i64 a0_4, .slice A0_5 l0_5.length c0_5]] w fun e w' => ∃ v1_ v2_ v3_ v5_ : Value, e = .returned (.agg #[.bool r1, v1_, v2_, v3_, .int .i64 r5, v5_]) ∧ Kd.R k30 30 w' w.heap.size (fun k_ => some k_ ≠ (v3_ : Value).ownBlock) v1_ r2 ∧ Kd.S k132 132 w' w.heap.size (fun k_ => some k_ ≠ (v5_ : Value).ownBlock) v2_ r3 ∧ Kd.R k30 30 w' w.heap.size (fun k_ => some k_ ≠ (v1_ : Value).ownBlock) v3_ r4 ∧ Kd.R (Kd.int .i64) 3 w' w.heap.size (fun _ => True) v5_ r6 ∧ Below w.heap.size w w' := by
 have hu72 := Try.underlying72
 have hu78 := Try.underlying78
 have hu70 := Try.underlying70
 have hu41 := Try.underlying41
 have HR0_1 := Aside0.mk hr0_1
 have HC0_1 := Aside0.mk hc0_1
 clear hr0_1 hc0_1
 have HR0_2 := Aside0.mk hr0_2
 have HC0_2 := Aside0.mk hc0_2
 clear hr0_2 hc0_2
 have HR0_3 := Aside0.mk hr0_3
 have HC0_3 := Aside0.mk hc0_3
 clear hr0_3 hc0_3
 have HR0_5 := Aside0.mk hr0_5
 have HC0_5 := Aside0.mk hc0_5
 clear hr0_5 hc0_5
 have HB := Aside0.mk (Below.refl w.heap.size w)
 have H : ((laws_toValS.f k l0_1).bind fun t161 => ((laws_toRefValS.f k l0_2).bind fun t164 => ((laws_toValS.f k l0_3).bind fun t167 => ((laws_toGaps.f k a0_4 l0_5).bind fun bt170 => (some (a0_0, t161, t164, t167, bt170.1, bt170.2)))))) = some (r1, r2, r3, r4, r5, r6) := h
 clear h
 replace H := sqbi H
 obtain ⟨t161, A2, H⟩ := H
 replace H : ((laws_toRefValS.f k l0_2).bind fun t164 => ((laws_toValS.f k l0_3).bind fun t167 => ((laws_toGaps.f k a0_4 l0_5).bind fun bt170 => (some (a0_0, t161, t164, t167, bt170.1, bt170.2))))) = some (r1, r2, r3, r4, r5, r6) := H
 replace H := sqbi H
 obtain ⟨t164, A3, H⟩ := H
 replace H : ((laws_toValS.f k l0_3).bind fun t167 => ((laws_toGaps.f k a0_4 l0_5).bind fun bt170 => (some (a0_0, t161, t164, t167, bt170.1, bt170.2)))) = some (r1, r2, r3, r4, r5, r6) := H
 replace H := sqbi H
 obtain ⟨t167, A4, H⟩ := H
 replace H : ((laws_toGaps.f k a0_4 l0_5).bind fun bt170 => (some (a0_0, t161, t164, t167, bt170.1, bt170.2))) = some (r1, r2, r3, r4, r5, r6) := H
 replace H := sqbi H
 obtain ⟨⟨t170, t171⟩, A5, H⟩ := H
 replace H : (some (a0_0, t161, t164, t167, t170, t171)) = some (r1, r2, r3, r4, r5, r6) := H
 simp only [Option.some.injEq, Prod.mk.injEq] at H
 obtain ⟨rfl, rfl, rfl, rfl, rfl, rfl⟩ := H
 go_enter Try.func59, Try.ntmps59
 go_wp2_with (first | ((with_reducible refine gate_dst (N := 1) rfl ?_); refine sqx 1 #[.bool a0_0, .slice A0_1 l0_1.length c0_1, .slice A0_2 l0_2.length c0_2, .slice A0_3 l0_3.length c0_3, .int .i64 a0_4, .slice A0_5 l0_5.length c0_5] 72 ?_; intro gb158 hg w6 hbox hb; have BK158 := Aside0.mk hbox; have GW158 := sqg HB hg; have GE158 := sqg HB hg; replace HB := sqs HB hb; clear hb hbox hg) | ((with_reducible refine gate_dst (N := 2) rfl ?_); refine sqx 2 #[.bool false, .slice none 0 0, .slice none 0 0, .slice none 0 0, .int .i64 0, .slice none 0 0] 78 ?_; intro gb159 hg w7 hbox hb; have BK159 := Aside0.mk hbox; have GW159 := sqg HB hg; have GE159 := sqg HB hg; have NB158_159 := sqn BK158 hg; have NB159_158 := sqm BK158 hg; replace BK158 := sqb BK158 hb; replace HB := sqs HB hb; clear hb hbox hg) | ((with_reducible refine gate_dst (N := 3) rfl ?_); refine sqx 3 #[.bool false, .slice none 0 0, .slice none 0 0, .slice none 0 0, .int .i64 0, .slice none 0 0] 78 ?_; intro gb160 hg w8 hbox hb; have BK160 := Aside0.mk hbox; have GW160 := sqg HB hg; have GE160 := sqg HB hg; have NB158_160 := sqn BK158 hg; have NB160_158 := sqm BK158 hg; have NB159_160 := sqn BK159 hg; have NB160_159 := sqm BK159 hg; refine sqM2 BK158 BK159 hb ?_; clear BK158 BK159; intro BK158 BK159; replace HB := sqs HB hb; clear hb hbox hg; have hnb9 := NB158_159.out; have hnc9 := NB159_158.out; have hnb10 := NB158_160.out; have hnc10 := NB160_158.out; obtain ⟨hcz11_0, hcz11_1, hcz11_2, hcz11_3, hcz11_4, hcz11_5, hfz11_0, hfz11_1, hfz11_2, hfz11_3, hfz11_4, hfz11_5⟩ := sqc6 BK158; have hnb12 := NB160_159.out; have hnc12 := NB159_160.out; obtain ⟨hcz13_0, hcz13_1, hcz13_2, hcz13_3, hcz13_4, hcz13_5, hfz13_0, hfz13_1, hfz13_2, hfz13_3, hfz13_4, hfz13_5⟩ := sqc6 BK160) | ((with_reducible refine gate_callee (f := 141) rfl ?_); refine sqL (some 9) Try.func141 #[.slice A0_1 l0_1.length c0_1] ?_; (with_reducible refine (laws_toValS.calls k _ _ l0_1 t161 _ ?side1 ?side2 A2.out).mono ?_); (case side1 => exact Kd.C_below HR0_1.out (sqB HB)); (case side2 => exact HC0_1.out); rintro e w14 ⟨v162, rfl, ho0, hb⟩; refine ⟨_, rfl, ?_⟩; have n0_ := Aside0.mk (Kd.R_lower ho0 (below_size (sqB HB))); have n1_ := Aside0.mk (blk_below (g := gb158) (o := .cells #[.bool a0_0, .slice A0_1 l0_1.length c0_1, .slice A0_2 l0_2.length c0_2, .slice A0_3 l0_3.length c0_3, .int .i64 a0_4, .slice A0_5 l0_5.length c0_5] 72 (0, 0)) (by refine sqt ?_; refine blk_far ?_ NB158_160.out _; refine sqt ?_; exact BK158.out) hb); have n2_ := Aside0.mk (blk_below (g := gb159) (o := .cells #[.bool false, .slice none 0 0, .slice none 0 0, .slice none 0 0, .int .i64 0, .slice none 0 0] 78 (0, 0)) (by refine sqt ?_; refine blk_far ?_ NB159_160.out _; refine sqt ?_; exact BK159.out) hb); have n3_ := Aside0.mk (blk_below (g := gb160) (o := .cells #[.bool a0_0, .slice none 0 0, .slice none 0 0, .slice none 0 0, .int .i64 0, .slice none 0 0] 78 (0, 0)) (by refine sqt ?_; refine blk_put (cs := #[.bool false, .slice none 0 0, .slice none 0 0, .slice none 0 0, .int .i64 0, .slice none 0 0]) ?_ 0 _ rfl; refine sqt ?_; exact BK160.out) hb); have n4_ := sqs HB hb; clear BK158; clear BK159; clear BK160; clear HB; have HO163 := n0_; have BK158 := n1_; have BK159 := n2_; have BK160 := n3_; have HB := n4_; clear n0_ n1_ n2_ n3_ n4_; (try clear hb); (try clear hb2); (try clear hk); (try clear hi); (try clear ho0); obtain ⟨Ao15, co15, eo15⟩ := Kd.R_slice HO163.out; subst eo15; obtain ⟨hcz16_0, hcz16_1, hcz16_2, hcz16_3, hcz16_4, hcz16_5, hfz16_0, hfz16_1, hfz16_2, hfz16_3, hfz16_4, hfz16_5⟩ := sqc6 BK160; obtain ⟨hcz17_0, hcz17_1, hcz17_2, hcz17_3, hcz17_4, hcz17_5, hfz17_0, hfz17_1, hfz17_2, hfz17_3, hfz17_4, hfz17_5⟩ := sqc6 BK158) | ((with_reducible refine gate_callee (f := 142) rfl ?_); refine sqL (some 13) Try.func142 #[.slice A0_2 l0_2.length c0_2] ?_; (with_reducible refine (laws_toRefValS.calls k _ _ l0_2 t164 _ ?side1 ?side2 A3.out).mono ?_); (case side1 => exact Kd.C_below HR0_2.out (sqB HB)); (case side2 => exact HC0_2.out); rintro e w18 ⟨v165, rfl, ho0, hb⟩; refine ⟨_, rfl, ?_⟩; have n0_ := Aside0.mk (Kd.R_below (by (with_reducible repeat (first | apply Kd.R_alloc | apply Kd.R_drewN | apply Kd.R_drew)); exact (Kd.R_mono (Kd.R_far (p := ⟨gb160, 1, none⟩) (Kd.R_types HO163.out BK160.out (by decide)) (fun _ hk => hk.2) (.slice Ao15 t161.length co15)) (fun _ h_ => h_.1))) hb); have n1_ := Aside0.mk (Kd.S_lower ho0 (below_size (sqB HB))); have n2_ := Aside0.mk (blk_below (g := gb158) (o := .cells #[.bool a0_0, .slice A0_1 l0_1.length c0_1, .slice A0_2 l0_2.length c0_2, .slice A0_3 l0_3.length c0_3, .int .i64 a0_4, .slice A0_5 l0_5.length c0_5] 72 (0, 0)) (by refine sqt ?_; refine blk_far ?_ NB158_160.out _; refine sqt ?_; exact BK158.out) hb); have n3_ := Aside0.mk (blk_below (g := gb159) (o := .cells #[.bool false, .slice none 0 0, .slice none 0 0, .slice none 0 0, .int .i64 0, .slice none 0 0] 78 (0, 0)) (by refine sqt ?_; refine blk_far ?_ NB159_160.out _; refine sqt ?_; exact BK159.out) hb); have n4_ := Aside0.mk (blk_below (g := gb160) (o := .cells #[.bool a0_0, .slice Ao15 t161.length co15, .slice none 0 0, .slice none 0 0, .int .i64 0, .slice none 0 0] 78 (0, 0)) (by refine sqt ?_; refine blk_put (cs := #[.bool a0_0, .slice none 0 0, .slice none 0 0, .slice none 0 0, .int .i64 0, .slice none 0 0]) ?_ 1 _ rfl; refine sqt ?_; exact BK160.out) hb); have n5_ := sqs HB hb; clear HO163; clear BK158; clear BK159; clear BK160; clear HB; have HO163 := n0_; have HO166 := n1_; have BK158 := n2_; have BK159 := n3_; have BK160 := n4_; have HB := n5_; clear n0_ n1_ n2_ n3_ n4_ n5_; (try clear hb); (try clear hb2); (try clear hk); (try clear hi); (try clear ho0); obtain ⟨Ao19, co19, eo19⟩ := Kd.S_slice HO166.out; subst eo19; obtain ⟨hcz20_0, hcz20_1, hcz20_2, hcz20_3, hcz20_4, hcz20_5, hfz20_0, hfz20_1, hfz20_2, hfz20_3, hfz20_4, hfz20_5⟩ := sqc6 BK160; obtain ⟨hcz21_0, hcz21_1, hcz21_2, hcz21_3, hcz21_4, hcz21_5, hfz21_0, hfz21_1, hfz21_2, hfz21_3, hfz21_4, hfz21_5⟩ := sqc6 BK158) | ((with_reducible refine gate_callee (f := 141) rfl ?_); refine sqL (some 17) Try.func141 #[.slice A0_3 l0_3.length c0_3] ?_; (with_reducible refine (laws_toValS.calls k _ _ l0_3 t167 _ ?side1 ?side2 A4.out).mono ?_); (case side1 => exact Kd.C_below HR0_3.out (sqB HB)); (case side2 => exact HC0_3.out); rintro e w22 ⟨v168, rfl, ho0, hb⟩; refine ⟨_, rfl, ?_⟩; have n0_ := Aside0.mk (Kd.R_elder' (by (with_reducible repeat (first | apply Kd.R_alloc | apply Kd.R_drewN | apply Kd.R_drew)); exact (Kd.R_mono (Kd.R_far (p := ⟨gb160, 2, none⟩) (Kd.R_types HO163.out BK160.out (by decide)) (fun _ hk => hk.2) (.slice Ao19 t164.length co19)) (fun _ h_ => h_.1))) (Kd.R_base ho0) hb); have n1_ := Aside0.mk (Kd.S_below (by (with_reducible repeat (first | apply Kd.S_alloc | apply Kd.S_drewN | apply Kd.S_drew)); exact (Kd.S_mono (Kd.S_far (p := ⟨gb160, 2, none⟩) (Kd.S_types HO166.out BK160.out (by decide)) (fun _ hk => hk.2) (.slice Ao19 t164.length co19)) (fun _ h_ => h_.1))) hb); have n2_ := Aside0.mk (Kd.R_lower (Kd.R_new' ho0 (Kd.R_lt (by (with_reducible repeat (first | apply Kd.R_alloc | apply Kd.R_drewN | apply Kd.R_drew)); exact (Kd.R_mono (Kd.R_far (p := ⟨gb160, 2, none⟩) (Kd.R_types HO163.out BK160.out (by decide)) (fun _ hk => hk.2) (.slice Ao19 t164.length co19)) (fun _ h_ => h_.1))))) (below_size (sqB HB))); have n3_ := Aside0.mk (blk_below (g := gb158) (o := .cells #[.bool a0_0, .slice A0_1 l0_1.length c0_1, .slice A0_2 l0_2.length c0_2, .slice A0_3 l0_3.length c0_3, .int .i64 a0_4, .slice A0_5 l0_5.length c0_5] 72 (0, 0)) (by refine sqt ?_; refine blk_far ?_ NB158_160.out _; refine sqt ?_; exact BK158.out) hb); have n4_ := Aside0.mk (blk_below (g := gb159) (o := .cells #[.bool false, .slice none 0 0, .slice none 0 0, .slice none 0 0, .int .i64 0, .slice none 0 0] 78 (0, 0)) (by refine sqt ?_; refine blk_far ?_ NB159_160.out _; refine sqt ?_; exact BK159.out) hb); have n5_ := Aside0.mk (blk_below (g := gb160) (o := .cells #[.bool a0_0, .slice Ao15 t161.length co15, .slice Ao19 t164.length co19, .slice none 0 0, .int .i64 0, .slice none 0 0] 78 (0, 0)) (by refine sqt ?_; refine blk_put (cs := #[.bool a0_0, .slice Ao15 t161.length co15, .slice none 0 0, .slice none 0 0, .int .i64 0, .slice none 0 0]) ?_ 2 _ rfl; refine sqt ?_; exact BK160.out) hb); have n6_ := sqs HB hb; clear HO163; clear HO166; clear BK158; clear BK159; clear BK160; clear HB; have HO163 := n0_; have HO166 := n1_; have HO169 := n2_; have BK158 := n3_; have BK159 := n4_; have BK160 := n5_; have HB := n6_; clear n0_ n1_ n2_ n3_ n4_ n5_ n6_; (try clear hb); (try clear hb2); (try clear hk); (try clear hi); (try clear ho0); obtain ⟨Ao23, co23, eo23⟩ := Kd.R_slice HO169.out; subst eo23; obtain ⟨hcz24_0, hcz24_1, hcz24_2, hcz24_3, hcz24_4, hcz24_5, hfz24_0, hfz24_1, hfz24_2, hfz24_3, hfz24_4, hfz24_5⟩ := sqc6 BK160; obtain ⟨hcz25_0, hcz25_1, hcz25_2, hcz25_3, hcz25_4, hcz25_5, hfz25_0, hfz25_1, hfz25_2, hfz25_3, hfz25_4, hfz25_5⟩ := sqc6 BK158) | ((with_reducible refine gate_callee (f := 143) rfl ?_); refine sqL (some 21) Try.func143 #[.agg #[.int .i64 a0_4, .slice A0_5 l0_5.length c0_5]] ?_; (with_reducible refine (laws_toGaps.calls k a0_4 _ _ l0_5 t170 t171 _ ?side1 ?side2 A5.out).mono ?_); (case side1 => exact Kd.C_below HR0_5.out (sqB HB)); (case side2 => exact HC0_5.out); rintro e w26 ⟨v172, rfl, ho0, hb⟩; refine ⟨_, rfl, ?_⟩; have n0_ := Aside0.mk (Kd.R_below (by (with_reducible repeat (first | apply Kd.R_alloc | apply Kd.R_drewN | apply Kd.R_drew)); exact (Kd.R_mono (Kd.R_far (p := ⟨gb160, 3, none⟩) (Kd.R_types HO163.out BK160.out (by decide)) (fun _ hk => hk.2) (.slice Ao23 t167.length co23)) (fun _ h_ => h_.1))) hb); have n1_ := Aside0.mk (Kd.S_elder' (by (with_reducible repeat (first | apply Kd.S_alloc | apply Kd.S_drewN | apply Kd.S_drew)); exact (Kd.S_mono (Kd.S_far (p := ⟨gb160, 3, none⟩) (Kd.S_types HO166.out BK160.out (by decide)) (fun _ hk => hk.2) (.slice Ao23 t167.length co23)) (fun _ h_ => h_.1))) (Kd.R_base ho0) hb); have n2_ := Aside0.mk (Kd.R_below (by (with_reducible repeat (first | apply Kd.R_alloc | apply Kd.R_drewN | apply Kd.R_drew)); exact (Kd.R_mono (Kd.R_far (p := ⟨gb160, 3, none⟩) (Kd.R_types HO169.out BK160.out (by decide)) (fun _ hk => hk.2) (.slice Ao23 t167.length co23)) (fun _ h_ => h_.1))) hb); have n3_ := Aside0.mk (Kd.R_lower ho0 (below_size (sqB HB))); have n4_ := Aside0.mk (blk_below (g := gb158) (o := .cells #[.bool a0_0, .slice A0_1 l0_1.length c0_1, .slice A0_2 l0_2.length c0_2, .slice A0_3 l0_3.length c0_3, .int .i64 a0_4, .slice A0_5 l0_5.length c0_5] 72 (0, 0)) (by refine sqt ?_; refine blk_far ?_ NB158_160.out _; refine sqt ?_; exact BK158.out) hb); have n5_ := Aside0.mk (blk_below (g := gb159) (o := .cells #[.bool false, .slice none 0 0, .slice none 0 0, .slice none 0 0, .int .i64 0, .slice none 0 0] 78 (0, 0)) (by refine sqt ?_; refine blk_far ?_ NB159_160.out _; refine sqt ?_; exact BK159.out) hb); have n6_ := Aside0.mk (blk_below (g := gb160) (o := .cells #[.bool a0_0, .slice Ao15 t161.length co15, .slice Ao19 t164.length co19, .slice Ao23 t167.length co23, .int .i64 0, .slice none 0 0] 78 (0, 0)) (by refine sqt ?_; refine blk_put (cs := #[.bool a0_0, .slice Ao15 t161.length co15, .slice Ao19 t164.length co19, .slice none 0 0, .int .i64 0, .slice none 0 0]) ?_ 3 _ rfl; refine sqt ?_; exact BK160.out) hb); have n7_ := sqs HB hb; clear HO163; clear HO166; clear HO169; clear BK158; clear BK159; clear BK160; clear HB; have HO163 := n0_; have HO166 := n1_; have HO169 := n2_; have HO173 := n3_; have BK158 := n4_; have BK159 := n5_; have BK160 := n6_; have HB := n7_; clear n0_ n1_ n2_ n3_ n4_ n5_ n6_ n7_; (try clear hb); (try clear hb2); (try clear hk); (try clear hi); (try clear ho0); obtain ⟨hcz27_0, hcz27_1, hcz27_2, hcz27_3, hcz27_4, hcz27_5, hfz27_0, hfz27_1, hfz27_2, hfz27_3, hfz27_4, hfz27_5⟩ := sqc6 BK160; obtain ⟨Ao28, co28, eo28⟩ := Kd.R_slice HO173.out; subst eo28; obtain ⟨hcz29_0, hcz29_1, hcz29_2, hcz29_3, hcz29_4, hcz29_5, hfz29_0, hfz29_1, hfz29_2, hfz29_3, hfz29_4, hfz29_5⟩ := sqc6 BK159))
 refine bodyPost_ret (results_cell_row rfl _ _ gb159 78 #[.bool a0_0, .slice Ao15 t161.length co15, .slice Ao19 t164.length co19, .slice Ao23 t167.length co23, .int .i64 t170, .slice Ao28 t171.length co28] (0, 0) _ rfl (by refine sqt ?_; refine blk_put (cs := #[.bool a0_0, .slice Ao15 t161.length co15, .slice Ao19 t164.length co19, .slice Ao23 t167.length co23, .int .i64 t170, .slice none 0 0]) ?_ 5 _ rfl; refine sqt ?_; refine blk_put (cs := #[.bool a0_0, .slice Ao15 t161.length co15, .slice Ao19 t164.length co19, .slice Ao23 t167.length co23, .int .i64 0, .slice none 0 0]) ?_ 4 _ rfl; refine sqt ?_; refine blk_put (cs := #[.bool a0_0, .slice Ao15 t161.length co15, .slice Ao19 t164.length co19, .slice none 0 0, .int .i64 0, .slice none 0 0]) ?_ 3 _ rfl; refine sqt ?_; refine blk_put (cs := #[.bool a0_0, .slice Ao15 t161.length co15, .slice none 0 0, .slice none 0 0, .int .i64 0, .slice none 0 0]) ?_ 2 _ rfl; refine sqt ?_; refine blk_put (cs := #[.bool a0_0, .slice none 0 0, .slice none 0 0, .slice none 0 0, .int .i64 0, .slice none 0 0]) ?_ 1 _ rfl; refine sqt ?_; refine blk_put (cs := #[.bool false, .slice none 0 0, .slice none 0 0, .slice none 0 0, .int .i64 0, .slice none 0 0]) ?_ 0 _ rfl; refine sqt ?_; refine blk_far ?_ NB159_160.out _; refine sqt ?_; refine blk_far ?_ NB159_160.out _; refine sqt ?_; exact BK159.out) Try.underlying78 rfl (by kernel_rfl)) rfl ?_
 exact ⟨_, _, _, _, by first | rfl | (simp [errW_none, errW_some] <;> rfl) | (simp [*, errW_none, errW_some] <;> rfl), by (with_reducible repeat (first | apply Kd.R_alloc | apply Kd.R_drewN | apply Kd.R_drew)); exact Kd.R_mono (Kd.R_far (p := ⟨gb159, 5, none⟩) (Kd.R_far (p := ⟨gb159, 4, none⟩) (Kd.R_far (p := ⟨gb159, 3, none⟩) (Kd.R_far (p := ⟨gb159, 2, none⟩) (Kd.R_far (p := ⟨gb159, 1, none⟩) (Kd.R_far (p := ⟨gb159, 0, none⟩) (Kd.R_far (p := ⟨gb160, 5, none⟩) (Kd.R_far (p := ⟨gb160, 4, none⟩) (Kd.R_types (Kd.R_types HO163.out BK160.out (by decide)) BK159.out (by decide)) (fun _ hk => hk.1.2) (.int .i64 t170)) (fun _ hk => hk.1.2) (.slice Ao28 t171.length co28)) (fun _ hk => hk.2) (.bool a0_0)) (fun _ hk => hk.2) (.slice Ao15 t161.length co15)) (fun _ hk => hk.2) (.slice Ao19 t164.length co19)) (fun _ hk => hk.2) (.slice Ao23 t167.length co23)) (fun _ hk => hk.2) (.int .i64 t170)) (fun _ hk => hk.2) (.slice Ao28 t171.length co28)) (fun _ hk => hk.1.1.2), by (with_reducible repeat (first | apply Kd.S_alloc | apply Kd.S_drewN | apply Kd.S_drew)); exact Kd.S_mono (Kd.S_far (p := ⟨gb159, 5, none⟩) (Kd.S_far (p := ⟨gb159, 4, none⟩) (Kd.S_far (p := ⟨gb159, 3, none⟩) (Kd.S_far (p := ⟨gb159, 2, none⟩) (Kd.S_far (p := ⟨gb159, 1, none⟩) (Kd.S_far (p := ⟨gb159, 0, none⟩) (Kd.S_far (p := ⟨gb160, 5, none⟩) (Kd.S_far (p := ⟨gb160, 4, none⟩) (Kd.S_types (Kd.S_types HO166.out BK160.out (by decide)) BK159.out (by decide)) (fun _ hk => hk.1.2) (.int .i64 t170)) (fun _ hk => hk.1.2) (.slice Ao28 t171.length co28)) (fun _ hk => hk.2) (.bool a0_0)) (fun _ hk => hk.2) (.slice Ao15 t161.length co15)) (fun _ hk => hk.2) (.slice Ao19 t164.length co19)) (fun _ hk => hk.2) (.slice Ao23 t167.length co23)) (fun _ hk => hk.2) (.int .i64 t170)) (fun _ hk => hk.2) (.slice Ao28 t171.length co28)) (fun _ hk => hk.1.1.2), by (with_reducible repeat (first | apply Kd.R_alloc | apply Kd.R_drewN | apply Kd.R_drew)); exact Kd.R_mono (Kd.R_far (p := ⟨gb159, 5, none⟩) (Kd.R_far (p := ⟨gb159, 4, none⟩) (Kd.R_far (p := ⟨gb159, 3, none⟩) (Kd.R_far (p := ⟨gb159, 2, none⟩) (Kd.R_far (p := ⟨gb159, 1, none⟩) (Kd.R_far (p := ⟨gb159, 0, none⟩) (Kd.R_far (p := ⟨gb160, 5, none⟩) (Kd.R_far (p := ⟨gb160, 4, none⟩) (Kd.R_types (Kd.R_types HO169.out BK160.out (by decide)) BK159.out (by decide)) (fun _ hk => hk.1.2) (.int .i64 t170)) (fun _ hk => hk.1.2) (.slice Ao28 t171.length co28)) (fun _ hk => hk.2) (.bool a0_0)) (fun _ hk => hk.2) (.slice Ao15 t161.length co15)) (fun _ hk => hk.2) (.slice Ao19 t164.length co19)) (fun _ hk => hk.2) (.slice Ao23 t167.length co23)) (fun _ hk => hk.2) (.int .i64 t170)) (fun _ hk => hk.2) (.slice Ao28 t171.length co28)) (fun _ hk => hk.1.1.2), by (with_reducible repeat (first | apply Kd.R_alloc | apply Kd.R_drewN | apply Kd.R_drew)); exact Kd.R_mono (Kd.R_far (p := ⟨gb159, 5, none⟩) (Kd.R_far (p := ⟨gb159, 4, none⟩) (Kd.R_far (p := ⟨gb159, 3, none⟩) (Kd.R_far (p := ⟨gb159, 2, none⟩) (Kd.R_far (p := ⟨gb159, 1, none⟩) (Kd.R_far (p := ⟨gb159, 0, none⟩) (Kd.R_far (p := ⟨gb160, 5, none⟩) (Kd.R_far (p := ⟨gb160, 4, none⟩) (Kd.R_types (Kd.R_types HO173.out BK160.out (by decide)) BK159.out (by decide)) (fun _ hk => hk.1.2) (.int .i64 t170)) (fun _ hk => hk.1.2) (.slice Ao28 t171.length co28)) (fun _ hk => hk.2) (.bool a0_0)) (fun _ hk => hk.2) (.slice Ao15 t161.length co15)) (fun _ hk => hk.2) (.slice Ao19 t164.length co19)) (fun _ hk => hk.2) (.slice Ao23 t167.length co23)) (fun _ hk => hk.2) (.int .i64 t170)) (fun _ hk => hk.2) (.slice Ao28 t171.length co28)) (fun _ hk => trivial), by repeat (first | (with_reducible first | exact HB.out | apply below_alloc | apply pw_below_drewN | apply below_drew1 | refine below_set ?_ GE158.out | refine below_set ?_ GE159.out | refine below_set ?_ GE160.out) | exact HB.out)⟩

/-! ### laws_eqVal: function 203 -/
set_option maxHeartbeats 8000000 in
set_option maxRecDepth 100000 in
theorem laws_eqVal.calls (a0_0 : Int) (a0_1 : Int) (a0_2 : Int) (a0_3 : Int) (a1_0 : Int) (a1_1 : Int) (a1_2 : Int) (a1_3 : Int) (r : Bool) (w : World) (h : laws_eqVal.f a0_0 a0_1 a0_2 a0_3 a1_0 a1_1 a1_2 a1_3 = some r) :
  Calls Try.prog 203 #[.agg #[.int .i64 a0_0, .int .i64 a0_1, .int .i64 a0_2, .int .i64 a0_3], .agg #[.int .i64 a1_0, .int .i64 a1_1, .int .i64 a1_2, .int .i64 a1_3]] w fun e w' => e = .returned (.bool r) ∧ Below w.heap.size w w' := by
 have hu30 := Try.underlying30
 have HB := Aside0.mk (Below.refl w.heap.size w)
 have H : (if a0_0 = a1_0 then (if a0_1 = a1_1 then (if a0_2 = a1_2 then (if a0_3 = a1_3 then (some true) else (some false)) else (some false)) else (some false)) else (some false)) = some r := h
 clear h
 replace H := sqi H
 rcases H with ⟨c3, H⟩ | ⟨c3, H⟩
 ·have c3b0 : (a0_0 == a1_0) = false := beq_eq_false_iff_ne.mpr c3
  have c3b1 : (a0_0 != a1_0) = true := bne_iff_ne.mpr c3
  obtain rfl := Option.some.inj H
  go_enter Try.func203, Try.ntmps203
  go_wp2_with (first | ((with_reducible refine gate_dst (N := 2) rfl ?_); refine sqx 2 #[.int .i64 a0_0, .int .i64 a0_1, .int .i64 a0_2, .int .i64 a0_3] 30 ?_; intro gb174 hg w27 hbox hb; have BK174 := Aside0.mk hbox; have GW174 := sqg HB hg; have GE174 := sqg HB hg; replace HB := sqs HB hb; clear hb hbox hg) | ((with_reducible refine gate_dst (N := 3) rfl ?_); refine sqx 3 #[.int .i64 a1_0, .int .i64 a1_1, .int .i64 a1_2, .int .i64 a1_3] 30 ?_; intro gb175 hg w28 hbox hb; have BK175 := Aside0.mk hbox; have GW175 := sqg HB hg; have GE175 := sqg HB hg; have NB174_175 := sqn BK174 hg; have NB175_174 := sqm BK174 hg; replace BK174 := sqb BK174 hb; replace HB := sqs HB hb; clear hb hbox hg; have hnb29 := NB174_175.out; have hnc29 := NB175_174.out; obtain ⟨hcz30_0, hcz30_1, hcz30_2, hcz30_3, hfz30_0, hfz30_1, hfz30_2, hfz30_3⟩ := sqc4 BK174; obtain ⟨hcz31_0, hcz31_1, hcz31_2, hcz31_3, hfz31_0, hfz31_1, hfz31_2, hfz31_3⟩ := sqc4 BK175))
  go_ret
  exact sqe HB
 have c3b0 : (a0_0 == a1_0) = true := beq_iff_eq.mpr c3
 have c3b1 : (a0_0 != a1_0) = false := bne_eq_false_iff_eq.mpr c3
 clear c3
 replace H := sqi H
 rcases H with ⟨c4, H⟩ | ⟨c4, H⟩
 ·have c4b0 : (a0_1 == a1_1) = false := beq_eq_false_iff_ne.mpr c4
  have c4b1 : (a0_1 != a1_1) = true := bne_iff_ne.mpr c4
  obtain rfl := Option.some.inj H
  go_enter Try.func203, Try.ntmps203
  go_wp2_with (first | ((with_reducible refine gate_dst (N := 2) rfl ?_); refine sqx 2 #[.int .i64 a0_0, .int .i64 a0_1, .int .i64 a0_2, .int .i64 a0_3] 30 ?_; intro gb174 hg w22 hbox hb; have BK174 := Aside0.mk hbox; have GW174 := sqg HB hg; have GE174 := sqg HB hg; replace HB := sqs HB hb; clear hb hbox hg) | ((with_reducible refine gate_dst (N := 3) rfl ?_); refine sqx 3 #[.int .i64 a1_0, .int .i64 a1_1, .int .i64 a1_2, .int .i64 a1_3] 30 ?_; intro gb175 hg w23 hbox hb; have BK175 := Aside0.mk hbox; have GW175 := sqg HB hg; have GE175 := sqg HB hg; have NB174_175 := sqn BK174 hg; have NB175_174 := sqm BK174 hg; replace BK174 := sqb BK174 hb; replace HB := sqs HB hb; clear hb hbox hg; have hnb24 := NB174_175.out; have hnc24 := NB175_174.out; obtain ⟨hcz25_0, hcz25_1, hcz25_2, hcz25_3, hfz25_0, hfz25_1, hfz25_2, hfz25_3⟩ := sqc4 BK174; obtain ⟨hcz26_0, hcz26_1, hcz26_2, hcz26_3, hfz26_0, hfz26_1, hfz26_2, hfz26_3⟩ := sqc4 BK175))
  go_ret
  exact sqe HB
 have c4b0 : (a0_1 == a1_1) = true := beq_iff_eq.mpr c4
 have c4b1 : (a0_1 != a1_1) = false := bne_eq_false_iff_eq.mpr c4
 clear c4
 replace H := sqi H
 rcases H with ⟨c5, H⟩ | ⟨c5, H⟩
 ·have c5b0 : (a0_2 == a1_2) = false := beq_eq_false_iff_ne.mpr c5
  have c5b1 : (a0_2 != a1_2) = true := bne_iff_ne.mpr c5
  obtain rfl := Option.some.inj H
  go_enter Try.func203, Try.ntmps203
  go_wp2_with (first | ((with_reducible refine gate_dst (N := 2) rfl ?_); refine sqx 2 #[.int .i64 a0_0, .int .i64 a0_1, .int .i64 a0_2, .int .i64 a0_3] 30 ?_; intro gb174 hg w17 hbox hb; have BK174 := Aside0.mk hbox; have GW174 := sqg HB hg; have GE174 := sqg HB hg; replace HB := sqs HB hb; clear hb hbox hg) | ((with_reducible refine gate_dst (N := 3) rfl ?_); refine sqx 3 #[.int .i64 a1_0, .int .i64 a1_1, .int .i64 a1_2, .int .i64 a1_3] 30 ?_; intro gb175 hg w18 hbox hb; have BK175 := Aside0.mk hbox; have GW175 := sqg HB hg; have GE175 := sqg HB hg; have NB174_175 := sqn BK174 hg; have NB175_174 := sqm BK174 hg; replace BK174 := sqb BK174 hb; replace HB := sqs HB hb; clear hb hbox hg; have hnb19 := NB174_175.out; have hnc19 := NB175_174.out; obtain ⟨hcz20_0, hcz20_1, hcz20_2, hcz20_3, hfz20_0, hfz20_1, hfz20_2, hfz20_3⟩ := sqc4 BK174; obtain ⟨hcz21_0, hcz21_1, hcz21_2, hcz21_3, hfz21_0, hfz21_1, hfz21_2, hfz21_3⟩ := sqc4 BK175))
  go_ret
  exact sqe HB
 have c5b0 : (a0_2 == a1_2) = true := beq_iff_eq.mpr c5
 have c5b1 : (a0_2 != a1_2) = false := bne_eq_false_iff_eq.mpr c5
 clear c5
 replace H := sqi H
 rcases H with ⟨c6, H⟩ | ⟨c6, H⟩
 ·have c6b0 : (a0_3 == a1_3) = false := beq_eq_false_iff_ne.mpr c6
  have c6b1 : (a0_3 != a1_3) = true := bne_iff_ne.mpr c6
  obtain rfl := Option.some.inj H
  go_enter Try.func203, Try.ntmps203
  go_wp2_with (first | ((with_reducible refine gate_dst (N := 2) rfl ?_); refine sqx 2 #[.int .i64 a0_0, .int .i64 a0_1, .int .i64 a0_2, .int .i64 a0_3] 30 ?_; intro gb174 hg w12 hbox hb; have BK174 := Aside0.mk hbox; have GW174 := sqg HB hg; have GE174 := sqg HB hg; replace HB := sqs HB hb; clear hb hbox hg) | ((with_reducible refine gate_dst (N := 3) rfl ?_); refine sqx 3 #[.int .i64 a1_0, .int .i64 a1_1, .int .i64 a1_2, .int .i64 a1_3] 30 ?_; intro gb175 hg w13 hbox hb; have BK175 := Aside0.mk hbox; have GW175 := sqg HB hg; have GE175 := sqg HB hg; have NB174_175 := sqn BK174 hg; have NB175_174 := sqm BK174 hg; replace BK174 := sqb BK174 hb; replace HB := sqs HB hb; clear hb hbox hg; have hnb14 := NB174_175.out; have hnc14 := NB175_174.out; obtain ⟨hcz15_0, hcz15_1, hcz15_2, hcz15_3, hfz15_0, hfz15_1, hfz15_2, hfz15_3⟩ := sqc4 BK174; obtain ⟨hcz16_0, hcz16_1, hcz16_2, hcz16_3, hfz16_0, hfz16_1, hfz16_2, hfz16_3⟩ := sqc4 BK175))
  go_ret
  exact sqe HB
 have c6b0 : (a0_3 == a1_3) = true := beq_iff_eq.mpr c6
 have c6b1 : (a0_3 != a1_3) = false := bne_eq_false_iff_eq.mpr c6
 clear c6
 obtain rfl := Option.some.inj H
 go_enter Try.func203, Try.ntmps203
 go_wp2_with (first | ((with_reducible refine gate_dst (N := 2) rfl ?_); refine sqx 2 #[.int .i64 a0_0, .int .i64 a0_1, .int .i64 a0_2, .int .i64 a0_3] 30 ?_; intro gb174 hg w7 hbox hb; have BK174 := Aside0.mk hbox; have GW174 := sqg HB hg; have GE174 := sqg HB hg; replace HB := sqs HB hb; clear hb hbox hg) | ((with_reducible refine gate_dst (N := 3) rfl ?_); refine sqx 3 #[.int .i64 a1_0, .int .i64 a1_1, .int .i64 a1_2, .int .i64 a1_3] 30 ?_; intro gb175 hg w8 hbox hb; have BK175 := Aside0.mk hbox; have GW175 := sqg HB hg; have GE175 := sqg HB hg; have NB174_175 := sqn BK174 hg; have NB175_174 := sqm BK174 hg; replace BK174 := sqb BK174 hb; replace HB := sqs HB hb; clear hb hbox hg; have hnb9 := NB174_175.out; have hnc9 := NB175_174.out; obtain ⟨hcz10_0, hcz10_1, hcz10_2, hcz10_3, hfz10_0, hfz10_1, hfz10_2, hfz10_3⟩ := sqc4 BK174; obtain ⟨hcz11_0, hcz11_1, hcz11_2, hcz11_3, hfz11_0, hfz11_1, hfz11_2, hfz11_3⟩ := sqc4 BK175))
 go_ret
 exact sqe HB

/-! ### laws_eqValS: function 146 -/
def laws_eqValS.T6 : Bool × List (List Nat × List Nat) := (true, [([], []), ([], []), ([0, 1], [0, 1]), ([2], [2]), ([], []), ([], []), ([4, 5], [4, 5]), ([6], [6]), ([3, 7], [3, 7]), ([8], [8])])
def laws_eqValS.B6 : List Nat := [0, 0, 3, 7, 0, 0, 48, 112, 255, 511]
theorem laws_eqValS.tab6 : rtab .any (opsOf Try.f146 6) = laws_eqValS.T6 := by kernel_rfl
theorem laws_eqValS.bits6 : waitsOk laws_eqValS.T6.2 laws_eqValS.B6 = true := by kernel_rfl
set_option maxHeartbeats 8000000 in
set_option maxRecDepth 100000 in
theorem laws_eqValS.calls (k : Nat) (A0 : Option Addr) (c0 : Nat) (l0 : List (S30)) (A1 : Option Addr) (c1 : Nat) (l1 : List (S30)) (r : Bool) (w : World) (hr0 : Kd.C k30 w A0 l0.length l0) (hc0 : l0.length ≤ c0) (hr1 : Kd.C k30 w A1 l1.length l1) (hc1 : l1.length ≤ c1) (h : laws_eqValS.f k l0 l1 = some r) :
  Calls Try.prog 146 #[.slice A0 l0.length c0, .slice A1 l1.length c1] w fun e w' => e = .returned (.bool r) ∧ Below w.heap.size w w' := by
 have hu30 := Try.underlying30
 have HR0 := Aside0.mk hr0
 have HC0 := Aside0.mk hc0
 clear hr0 hc0
 have HR1 := Aside0.mk hr1
 have HC1 := Aside0.mk hc1
 clear hr1 hc1
 have HB := Aside0.mk (Below.refl w.heap.size w)
 have H : (if (l0.length : Int) = (l1.length : Int) then (laws_eqValS.l0 k l0 l1 0) else (some false)) = some r := h
 clear h
 replace H := sqi H
 rcases H with ⟨c3, H⟩ | ⟨c3, H⟩
 ·have c3b0 : ((l0.length : Int) == (l1.length : Int)) = false := beq_eq_false_iff_ne.mpr c3
  have c3b1 : ((l0.length : Int) != (l1.length : Int)) = true := bne_iff_ne.mpr c3
  have c3b2 : (l0.length == l1.length) = false := by first | simpa using c3 | (simp at c3 ⊢; omega)
  obtain rfl := Option.some.inj H
  go_enter Try.func146, Try.ntmps146
  go_wp2
  go_ret
  exact sqe HB
 have c3b0 : ((l0.length : Int) == (l1.length : Int)) = true := beq_iff_eq.mpr c3
 have c3b1 : ((l0.length : Int) != (l1.length : Int)) = false := bne_eq_false_iff_eq.mpr c3
 have c3b2 : (l0.length == l1.length) = true := by first | simpa using c3 | (simp at c3 ⊢; omega)
 clear c3
 have H' := Aside0.mk H
 clear H
 go_enter Try.func146, Try.ntmps146
 go_wp2
 go_loopg [5] k (fun kq v5 w' => ∃ (x5_1 : Int), v5 = .int .i64 x5_1 ∧ Aside0 (laws_eqValS.l0 kq l0 l1 x5_1 = some r) ∧ Aside0 (kq ≤ k) ∧ Aside0 (Below w.heap.size w w'))
 case atStart => exact ⟨(0), (by first | rfl | (simp; done) | (simp [*]; done)), H', ⟨Nat.le_refl _⟩, sqh HB⟩
 case round =>
  clear H'
  obtain ⟨x5_1, rfl, HA, HK1, HB⟩ := hrel
  cases gk with
  | zero => exact absurd HA.out (by simp [laws_eqValS.l0])
  | succ k1 =>
   have H := HA.out
   clear HA
   simp only [laws_eqValS.l0] at H
   replace H := sqi H
   rcases H with ⟨c4, H⟩ | ⟨c4, H⟩
   ·have c4b0 := decide_eq_false c4
    clear c4
    obtain rfl := Option.some.inj H
    go_wp2
    go_ret
    exact sqe HB
   have c4b0 := decide_eq_true c4
   clear c4
   replace H := sqi H
   rcases H with ⟨c5, H⟩ | ⟨c5, H⟩
   ·exact absurd H (by simp)
   have c5b0 := decide_eq_true c5
   clear c5
   replace H := sqi H
   rcases H with ⟨c6, H⟩ | ⟨c6, H⟩
   ·exact absurd H (by simp)
   have c6b0 := decide_eq_true c6
   clear c6
   replace H := sqbi H
   obtain ⟨t178, A7, H⟩ := H
   replace H : (if t178 = true then (laws_eqValS.l0 k1 l0 l1 (wrap64 (x5_1 + 1))) else (some false)) = some r := H
   rcases sqI (t178 = true) with c8 | c8
   ·replace c8 := Bool.eq_false_iff.mpr c8
    subst c8
    have H1 : (some false) = some r := by rw [if_neg (show ¬ (false = true) by decide)] at H; exact H
    clear H
    have H := H1
    clear H1
    obtain rfl := Option.some.inj H
    try go_wp2
    replace HB := Aside0.mk (below_drew1 HB.out)
    have p176 : 0 ≤ (x5_1 : Int) := sqd
    have q176 : x5_1 < (l0.length : Int) := sqd
    obtain ⟨ad176, e176, hx176_0, hx176_1, hx176_2, hx176_3⟩ := at_T30 HR0.out x5_1 p176 q176
    have hw176_3 := hx176_3
    have hw176_2 := hx176_2
    have hw176_1 := hx176_1
    have hw176_0 := hx176_0
    cases e176
    replace hx176_0 := sqa HB hx176_0
    replace hx176_1 := sqa HB hx176_1
    replace hx176_2 := sqa HB hx176_2
    replace hx176_3 := sqa HB hx176_3
    replace p176 := eq_true p176
    replace q176 := eq_true q176
    have p177 : 0 ≤ (x5_1 : Int) := sqd
    have q177 : x5_1 < (l1.length : Int) := sqd
    obtain ⟨ad177, e177, hx177_0, hx177_1, hx177_2, hx177_3⟩ := at_T30 HR1.out x5_1 p177 q177
    have hw177_3 := hx177_3
    have hw177_2 := hx177_2
    have hw177_1 := hx177_1
    have hw177_0 := hx177_0
    cases e177
    replace hx177_0 := sqa HB hx177_0
    replace hx177_1 := sqa HB hx177_1
    replace hx177_2 := sqa HB hx177_2
    replace hx177_3 := sqa HB hx177_3
    replace p177 := eq_true p177
    replace q177 := eq_true q177
    refine start_ (n := 10) (S := fun w' => w'.cell? (ad176.add ((x5_1).toNat * 4)) = some (.int .i64 ((rd_T30 l0 x5_1).f0)) ∧ w'.cell? ⟨(ad176.add ((x5_1).toNat * 4)).block, (ad176.add ((x5_1).toNat * 4)).off + 1, none⟩ = some (.int .i64 ((rd_T30 l0 x5_1).f1)) ∧ w'.cell? ⟨(ad176.add ((x5_1).toNat * 4)).block, (ad176.add ((x5_1).toNat * 4)).off + 2, none⟩ = some (.int .i64 ((rd_T30 l0 x5_1).f2)) ∧ w'.cell? ⟨(ad176.add ((x5_1).toNat * 4)).block, (ad176.add ((x5_1).toNat * 4)).off + 3, none⟩ = some (.int .i64 ((rd_T30 l0 x5_1).f3)) ∧ w'.cell? (ad177.add ((x5_1).toNat * 4)) = some (.int .i64 ((rd_T30 l1 x5_1).f0)) ∧ w'.cell? ⟨(ad177.add ((x5_1).toNat * 4)).block, (ad177.add ((x5_1).toNat * 4)).off + 1, none⟩ = some (.int .i64 ((rd_T30 l1 x5_1).f1)) ∧ w'.cell? ⟨(ad177.add ((x5_1).toNat * 4)).block, (ad177.add ((x5_1).toNat * 4)).off + 2, none⟩ = some (.int .i64 ((rd_T30 l1 x5_1).f2)) ∧ w'.cell? ⟨(ad177.add ((x5_1).toNat * 4)).block, (ad177.add ((x5_1).toNat * 4)).off + 3, none⟩ = some (.int .i64 ((rd_T30 l1 x5_1).f3))) (ds := []) #[false, false, false, false, false, false, false, false, false, false] (by kernel_rfl) rfl rfl ⟨(sqa HB hw176_0 :), (sqa HB hw176_1 :), (sqa HB hw176_2 :), (sqa HB hw176_3 :), (sqa HB hw177_0 :), (sqa HB hw177_1 :), (sqa HB hw177_2 :), (sqa HB hw177_3 :)⟩ (fun hHeld => ?_); refine with_tabW laws_eqValS.tab6 laws_eqValS.bits6 (fun HT_ HW_ => ?_)
    generalize wr.drew = w11 at HB hx176_0 hx176_1 hx176_2 hx176_3 hx177_0 hx177_1 hx177_2 hx177_3 hHeld ⊢
    refine sqp HT_ 0 17 ?_
    refine sqp HT_ 1 18 ?_
    refine sqp HT_ 2 19 ?_
    refine sqp HT_ 4 21 ?_
    refine sqp HT_ 5 22 ?_
    refine sqp HT_ 6 23 ?_
    refine sqw HT_ HW_ 3 20 hHeld ?_
    refine sqw HT_ HW_ 7 24 hHeld ?_
    refine sqo HT_ 8 25 (fun K hK => ?_)
    refine sqG Try.func203 #[.agg #[.int .i64 ((rd_T30 l0 x5_1).f0), .int .i64 ((rd_T30 l0 x5_1).f1), .int .i64 ((rd_T30 l0 x5_1).f2), .int .i64 ((rd_T30 l0 x5_1).f3)], .agg #[.int .i64 ((rd_T30 l1 x5_1).f0), .int .i64 ((rd_T30 l1 x5_1).f1), .int .i64 ((rd_T30 l1 x5_1).f2), .int .i64 ((rd_T30 l1 x5_1).f3)]] ?_
    with_reducible refine (laws_eqVal.calls ((rd_T30 l0 x5_1).f0) ((rd_T30 l0 x5_1).f1) ((rd_T30 l0 x5_1).f2) ((rd_T30 l0 x5_1).f3) ((rd_T30 l1 x5_1).f0) ((rd_T30 l1 x5_1).f1) ((rd_T30 l1 x5_1).f2) ((rd_T30 l1 x5_1).f3) false _ A7.out).mono ?_
    rintro e w12 ⟨rfl, hb⟩
    refine ⟨_, rfl, ?_⟩
    replace HB := sqs HB hb
    (try clear hb)
    refine hK.out _ _ ⟨(sqa HB hw176_0 :), (sqa HB hw176_1 :), (sqa HB hw176_2 :), (sqa HB hw176_3 :), (sqa HB hw177_0 :), (sqa HB hw177_1 :), (sqa HB hw177_2 :), (sqa HB hw177_3 :)⟩ (fun hHeld => ?_)
    clear hK K
    refine sqnm ?_
    refine sqp HT_ 9 26 ?_
    refine done_ (done_of HT_.out (by kernel_rfl)) ?_
    try go_wp2
    go_ret
    exact sqe HB
   subst c8
   have H1 : (laws_eqValS.l0 k1 l0 l1 (wrap64 (x5_1 + 1))) = some r := by rw [if_pos rfl] at H; exact H
   clear H
   have H := H1
   clear H1
   have H' := Aside0.mk H
   clear H
   try go_wp2
   replace HB := Aside0.mk (below_drew1 HB.out)
   have p176 : 0 ≤ (x5_1 : Int) := sqd
   have q176 : x5_1 < (l0.length : Int) := sqd
   obtain ⟨ad176, e176, hx176_0, hx176_1, hx176_2, hx176_3⟩ := at_T30 HR0.out x5_1 p176 q176
   have hw176_3 := hx176_3
   have hw176_2 := hx176_2
   have hw176_1 := hx176_1
   have hw176_0 := hx176_0
   cases e176
   replace hx176_0 := sqa HB hx176_0
   replace hx176_1 := sqa HB hx176_1
   replace hx176_2 := sqa HB hx176_2
   replace hx176_3 := sqa HB hx176_3
   replace p176 := eq_true p176
   replace q176 := eq_true q176
   have p177 : 0 ≤ (x5_1 : Int) := sqd
   have q177 : x5_1 < (l1.length : Int) := sqd
   obtain ⟨ad177, e177, hx177_0, hx177_1, hx177_2, hx177_3⟩ := at_T30 HR1.out x5_1 p177 q177
   have hw177_3 := hx177_3
   have hw177_2 := hx177_2
   have hw177_1 := hx177_1
   have hw177_0 := hx177_0
   cases e177
   replace hx177_0 := sqa HB hx177_0
   replace hx177_1 := sqa HB hx177_1
   replace hx177_2 := sqa HB hx177_2
   replace hx177_3 := sqa HB hx177_3
   replace p177 := eq_true p177
   replace q177 := eq_true q177
   refine start_ (n := 10) (S := fun w' => w'.cell? (ad176.add ((x5_1).toNat * 4)) = some (.int .i64 ((rd_T30 l0 x5_1).f0)) ∧ w'.cell? ⟨(ad176.add ((x5_1).toNat * 4)).block, (ad176.add ((x5_1).toNat * 4)).off + 1, none⟩ = some (.int .i64 ((rd_T30 l0 x5_1).f1)) ∧ w'.cell? ⟨(ad176.add ((x5_1).toNat * 4)).block, (ad176.add ((x5_1).toNat * 4)).off + 2, none⟩ = some (.int .i64 ((rd_T30 l0 x5_1).f2)) ∧ w'.cell? ⟨(ad176.add ((x5_1).toNat * 4)).block, (ad176.add ((x5_1).toNat * 4)).off + 3, none⟩ = some (.int .i64 ((rd_T30 l0 x5_1).f3)) ∧ w'.cell? (ad177.add ((x5_1).toNat * 4)) = some (.int .i64 ((rd_T30 l1 x5_1).f0)) ∧ w'.cell? ⟨(ad177.add ((x5_1).toNat * 4)).block, (ad177.add ((x5_1).toNat * 4)).off + 1, none⟩ = some (.int .i64 ((rd_T30 l1 x5_1).f1)) ∧ w'.cell? ⟨(ad177.add ((x5_1).toNat * 4)).block, (ad177.add ((x5_1).toNat * 4)).off + 2, none⟩ = some (.int .i64 ((rd_T30 l1 x5_1).f2)) ∧ w'.cell? ⟨(ad177.add ((x5_1).toNat * 4)).block, (ad177.add ((x5_1).toNat * 4)).off + 3, none⟩ = some (.int .i64 ((rd_T30 l1 x5_1).f3))) (ds := []) #[false, false, false, false, false, false, false, false, false, false] (by kernel_rfl) rfl rfl ⟨(sqa HB hw176_0 :), (sqa HB hw176_1 :), (sqa HB hw176_2 :), (sqa HB hw176_3 :), (sqa HB hw177_0 :), (sqa HB hw177_1 :), (sqa HB hw177_2 :), (sqa HB hw177_3 :)⟩ (fun hHeld => ?_); refine with_tabW laws_eqValS.tab6 laws_eqValS.bits6 (fun HT_ HW_ => ?_)
   generalize wr.drew = w9 at HB hx176_0 hx176_1 hx176_2 hx176_3 hx177_0 hx177_1 hx177_2 hx177_3 hHeld ⊢
   refine sqp HT_ 0 17 ?_
   refine sqp HT_ 1 18 ?_
   refine sqp HT_ 2 19 ?_
   refine sqp HT_ 4 21 ?_
   refine sqp HT_ 5 22 ?_
   refine sqp HT_ 6 23 ?_
   refine sqw HT_ HW_ 3 20 hHeld ?_
   refine sqw HT_ HW_ 7 24 hHeld ?_
   refine sqo HT_ 8 25 (fun K hK => ?_)
   refine sqG Try.func203 #[.agg #[.int .i64 ((rd_T30 l0 x5_1).f0), .int .i64 ((rd_T30 l0 x5_1).f1), .int .i64 ((rd_T30 l0 x5_1).f2), .int .i64 ((rd_T30 l0 x5_1).f3)], .agg #[.int .i64 ((rd_T30 l1 x5_1).f0), .int .i64 ((rd_T30 l1 x5_1).f1), .int .i64 ((rd_T30 l1 x5_1).f2), .int .i64 ((rd_T30 l1 x5_1).f3)]] ?_
   with_reducible refine (laws_eqVal.calls ((rd_T30 l0 x5_1).f0) ((rd_T30 l0 x5_1).f1) ((rd_T30 l0 x5_1).f2) ((rd_T30 l0 x5_1).f3) ((rd_T30 l1 x5_1).f0) ((rd_T30 l1 x5_1).f1) ((rd_T30 l1 x5_1).f2) ((rd_T30 l1 x5_1).f3) true _ A7.out).mono ?_
   rintro e w10 ⟨rfl, hb⟩
   refine ⟨_, rfl, ?_⟩
   replace HB := sqs HB hb
   (try clear hb)
   refine hK.out _ _ ⟨(sqa HB hw176_0 :), (sqa HB hw176_1 :), (sqa HB hw176_2 :), (sqa HB hw176_3 :), (sqa HB hw177_0 :), (sqa HB hw177_1 :), (sqa HB hw177_2 :), (sqa HB hw177_3 :)⟩ (fun hHeld => ?_)
   clear hK K
   refine sqnm ?_
   refine sqp HT_ 9 26 ?_
   refine done_ (done_of HT_.out (by kernel_rfl)) ?_
   try go_wp2
   go_roundg k1
   case measure => have := HK1.out; omega
   case rel => exact ⟨(wrap64 (x5_1 + 1)), (by first | rfl | (simp; done) | (simp [*]; done)), H', ⟨by have := HK1.out; omega⟩, sqh HB⟩

/-! ### laws_eqIntS: function 205 -/
set_option maxHeartbeats 8000000 in
set_option maxRecDepth 100000 in
theorem laws_eqIntS.calls (k : Nat) (A0 : Option Addr) (c0 : Nat) (l0 : List Int) (A1 : Option Addr) (c1 : Nat) (l1 : List Int) (r : Bool) (w : World) (hr0 : Kd.C (Kd.int .i64) w A0 l0.length l0) (hc0 : l0.length ≤ c0) (hr1 : Kd.C (Kd.int .i64) w A1 l1.length l1) (hc1 : l1.length ≤ c1) (h : laws_eqIntS.f k l0 l1 = some r) :
  Calls Try.prog 205 #[.slice A0 l0.length c0, .slice A1 l1.length c1] w fun e w' => e = .returned (.bool r) ∧ Drawn0 w w' := by
 have HR0 := Aside0.mk hr0
 have HC0 := Aside0.mk hc0
 clear hr0 hc0
 have HR1 := Aside0.mk hr1
 have HC1 := Aside0.mk hc1
 clear hr1 hc1
 have H : (if (l0.length : Int) = (l1.length : Int) then (laws_eqIntS.l0 k l0 l1 0) else (some false)) = some r := h
 clear h
 replace H := sqi H
 rcases H with ⟨c3, H⟩ | ⟨c3, H⟩
 ·have c3b0 : ((l0.length : Int) == (l1.length : Int)) = false := beq_eq_false_iff_ne.mpr c3
  have c3b1 : ((l0.length : Int) != (l1.length : Int)) = true := bne_iff_ne.mpr c3
  have c3b2 : (l0.length == l1.length) = false := by first | simpa using c3 | (simp at c3 ⊢; omega)
  obtain rfl := Option.some.inj H
  go_enter Try.func205, Try.ntmps205
  go_wp2
  repeat (go_quiet (fail); try go_wp2)
  go_ret
  exact ⟨by first | rfl | (simp; done) | (simp [*]; done), by repeat (first | exact Drawn0.refl _ | apply Drawn0.step)⟩
 have c3b0 : ((l0.length : Int) == (l1.length : Int)) = true := beq_iff_eq.mpr c3
 have c3b1 : ((l0.length : Int) != (l1.length : Int)) = false := bne_eq_false_iff_eq.mpr c3
 have c3b2 : (l0.length == l1.length) = true := by first | simpa using c3 | (simp at c3 ⊢; omega)
 clear c3
 have H' := Aside0.mk H
 clear H
 go_enter Try.func205, Try.ntmps205
 go_wp2
 repeat (go_quiet (fail); try go_wp2)
 go_loopg [5] k (fun kq v5 w' => ∃ (x5_1 : Int), v5 = .int .i64 x5_1 ∧ Aside0 (laws_eqIntS.l0 kq l0 l1 x5_1 = some r) ∧ Aside0 (kq ≤ k) ∧ Drawn0 w w')
 case atStart => exact ⟨(0), (by first | rfl | (simp; done) | (simp [*]; done)), H', ⟨Nat.le_refl _⟩, by repeat (first | exact Drawn0.refl _ | apply Drawn0.step)⟩
 case round =>
  clear H'
  obtain ⟨x5_1, rfl, HA, HK1, ⟨m1, rfl⟩⟩ := hrel
  cases gk with
  | zero => exact absurd HA.out (by simp [laws_eqIntS.l0])
  | succ k1 =>
   have H := HA.out
   clear HA
   simp only [laws_eqIntS.l0] at H
   replace H := sqi H
   rcases H with ⟨c4, H⟩ | ⟨c4, H⟩
   ·have c4b0 := decide_eq_false c4
    clear c4
    obtain rfl := Option.some.inj H
    go_wp2
    repeat (go_quiet (fail); try go_wp2)
    go_ret
    exact ⟨by first | rfl | (simp; done) | (simp [*]; done), by repeat (first | exact Drawn0.refl _ | apply Drawn0.step)⟩
   have c4b0 := decide_eq_true c4
   clear c4
   replace H := sqi H
   rcases H with ⟨c5, H⟩ | ⟨c5, H⟩
   ·exact absurd H (by simp)
   have c5b0 := decide_eq_true c5
   clear c5
   replace H := sqi H
   rcases H with ⟨c6, H⟩ | ⟨c6, H⟩
   ·exact absurd H (by simp)
   have c6b0 := decide_eq_true c6
   clear c6
   replace H := sqi H
   rcases H with ⟨c7, H⟩ | ⟨c7, H⟩
   ·have c7b0 : ((rd l0 x5_1) == (rd l1 x5_1)) = false := beq_eq_false_iff_ne.mpr c7
    have c7b1 : ((rd l0 x5_1) != (rd l1 x5_1)) = true := bne_iff_ne.mpr c7
    obtain rfl := Option.some.inj H
    have p179 : 0 ≤ (x5_1 : Int) := sqd
    have q179 : x5_1 < (l0.length : Int) := sqd
    obtain ⟨ad179, e179, hx179_0⟩ := Kd.at_int HR0.out x5_1 p179 q179
    cases e179
    replace p179 := eq_true p179
    replace q179 := eq_true q179
    have p180 : 0 ≤ (x5_1 : Int) := sqd
    have q180 : x5_1 < (l1.length : Int) := sqd
    obtain ⟨ad180, e180, hx180_0⟩ := Kd.at_int HR1.out x5_1 p180 q180
    cases e180
    replace p180 := eq_true p180
    replace q180 := eq_true q180
    go_wp2
    repeat (go_quiet (fail); try go_wp2)
    go_ret
    exact ⟨by first | rfl | (simp; done) | (simp [*]; done), by repeat (first | exact Drawn0.refl _ | apply Drawn0.step)⟩
   have c7b0 : ((rd l0 x5_1) == (rd l1 x5_1)) = true := beq_iff_eq.mpr c7
   have c7b1 : ((rd l0 x5_1) != (rd l1 x5_1)) = false := bne_eq_false_iff_eq.mpr c7
   clear c7
   have H' := Aside0.mk H
   clear H
   have p179 : 0 ≤ (x5_1 : Int) := sqd
   have q179 : x5_1 < (l0.length : Int) := sqd
   obtain ⟨ad179, e179, hx179_0⟩ := Kd.at_int HR0.out x5_1 p179 q179
   cases e179
   replace p179 := eq_true p179
   replace q179 := eq_true q179
   have p180 : 0 ≤ (x5_1 : Int) := sqd
   have q180 : x5_1 < (l1.length : Int) := sqd
   obtain ⟨ad180, e180, hx180_0⟩ := Kd.at_int HR1.out x5_1 p180 q180
   cases e180
   replace p180 := eq_true p180
   replace q180 := eq_true q180
   go_wp2
   repeat (go_quiet (fail); try go_wp2)
   go_roundg k1
   case measure => have := HK1.out; omega
   case rel => exact ⟨(wrap64 (x5_1 + 1)), (by first | rfl | (simp; done) | (simp [*]; done)), H', ⟨by have := HK1.out; omega⟩, by repeat (first | exact Drawn0.refl _ | apply Drawn0.step)⟩

/-! ### laws_eqRefVal: function 204 -/
set_option maxHeartbeats 8000000 in
set_option maxRecDepth 100000 in
theorem laws_eqRefVal.calls (k : Nat) (a0_0 : Bool) (A0_1 : Option Addr) (c0_1 : Nat) (l0_1 : List Int) (a0_2 : Int) (a0_3 : Int) (a0_4 : Int) (a0_5 : Int) (a1_0 : Bool) (A1_1 : Option Addr) (c1_1 : Nat) (l1_1 : List Int) (a1_2 : Int) (a1_3 : Int) (a1_4 : Int) (a1_5 : Int) (r : Bool) (w : World) (hr0_1 : Kd.C (Kd.int .i64) w A0_1 l0_1.length l0_1) (hc0_1 : l0_1.length ≤ c0_1) (hr1_1 : Kd.C (Kd.int .i64) w A1_1 l1_1.length l1_1) (hc1_1 : l1_1.length ≤ c1_1) (h : laws_eqRefVal.f k a0_0 l0_1 a0_2 a0_3 a0_4 a0_5 a1_0 l1_1 a1_2 a1_3 a1_4 a1_5 = some r) :
  Calls Try.prog 204 #[.agg #[.bool a0_0, .slice A0_1 l0_1.length c0_1, .int .i64 a0_2, .int .i64 a0_3, .int .i64 a0_4, .int .i64 a0_5], .agg #[.bool a1_0, .slice A1_1 l1_1.length c1_1, .int .i64 a1_2, .int .i64 a1_3, .int .i64 a1_4, .int .i64 a1_5]] w fun e w' => e = .returned (.bool r) ∧ Below w.heap.size w w' := by
 have hu132 := Try.underlying132
 have hu30 := Try.underlying30
 have HR0_1 := Aside0.mk hr0_1
 have HC0_1 := Aside0.mk hc0_1
 clear hr0_1 hc0_1
 have HR1_1 := Aside0.mk hr1_1
 have HC1_1 := Aside0.mk hc1_1
 clear hr1_1 hc1_1
 have HB := Aside0.mk (Below.refl w.heap.size w)
 have H : (if (a0_0 != a1_0) = true then (some false) else ((laws_eqIntS.f k l0_1 l1_1).bind fun t183 => (if t183 = true then ((laws_eqVal.f a0_2 a0_3 a0_4 a0_5 a1_2 a1_3 a1_4 a1_5).bind fun t184 => (if t184 = true then (some true) else (some false))) else (some false)))) = some r := h
 clear h
 replace H := sqj H
 rcases H with ⟨c3, H⟩ | ⟨c3, H⟩
 ·have c3b0 : (a0_0 != a1_0) = true := c3
  (try (have c3b1 : decide (a0_0 = a1_0) = false := by simpa using c3))
  (try (have c3b2 : (a0_0 == a1_0) = false := by simpa using c3))
  (try (have c3b3 : ¬ (a0_0 = a1_0) := by simpa using c3))
  clear c3
  obtain rfl := Option.some.inj H
  go_enter Try.func204, Try.ntmps204
  go_wp2_with (first | ((with_reducible refine gate_dst (N := 2) rfl ?_); refine sqx 2 #[.bool a0_0, .slice A0_1 l0_1.length c0_1, .int .i64 a0_2, .int .i64 a0_3, .int .i64 a0_4, .int .i64 a0_5] 132 ?_; intro gb181 hg w4 hbox hb; have BK181 := Aside0.mk hbox; have GW181 := sqg HB hg; have GE181 := sqg HB hg; replace HB := sqs HB hb; clear hb hbox hg) | ((with_reducible refine gate_dst (N := 3) rfl ?_); refine sqx 3 #[.bool a1_0, .slice A1_1 l1_1.length c1_1, .int .i64 a1_2, .int .i64 a1_3, .int .i64 a1_4, .int .i64 a1_5] 132 ?_; intro gb182 hg w5 hbox hb; have BK182 := Aside0.mk hbox; have GW182 := sqg HB hg; have GE182 := sqg HB hg; have NB181_182 := sqn BK181 hg; have NB182_181 := sqm BK181 hg; replace BK181 := sqb BK181 hb; replace HB := sqs HB hb; clear hb hbox hg; have hnb6 := NB181_182.out; have hnc6 := NB182_181.out; obtain ⟨hcz7_0, hcz7_1, hcz7_2, hcz7_3, hcz7_4, hcz7_5, hfz7_0, hfz7_1, hfz7_2, hfz7_3, hfz7_4, hfz7_5⟩ := sqc6 BK181; obtain ⟨hcz8_0, hcz8_1, hcz8_2, hcz8_3, hcz8_4, hcz8_5, hfz8_0, hfz8_1, hfz8_2, hfz8_3, hfz8_4, hfz8_5⟩ := sqc6 BK182))
  go_ret
  exact sqe HB
 have c3b0 : (a0_0 != a1_0) = false := by simpa using c3
 (try (have c3b1 : decide (a0_0 = a1_0) = true := by simpa using c3))
 (try (have c3b2 : (a0_0 == a1_0) = true := by simpa using c3))
 clear c3
 replace H := sqbi H
 obtain ⟨t183, A9, H⟩ := H
 replace H : (if t183 = true then ((laws_eqVal.f a0_2 a0_3 a0_4 a0_5 a1_2 a1_3 a1_4 a1_5).bind fun t184 => (if t184 = true then (some true) else (some false))) else (some false)) = some r := H
 rcases sqI (t183 = true) with c10 | c10
 ·replace c10 := Bool.eq_false_iff.mpr c10
  subst c10
  have H1 : (some false) = some r := by rw [if_neg (show ¬ (false = true) by decide)] at H; exact H
  clear H
  have H := H1
  clear H1
  obtain rfl := Option.some.inj H
  go_enter Try.func204, Try.ntmps204
  go_wp2_with (first | ((with_reducible refine gate_dst (N := 2) rfl ?_); refine sqx 2 #[.bool a0_0, .slice A0_1 l0_1.length c0_1, .int .i64 a0_2, .int .i64 a0_3, .int .i64 a0_4, .int .i64 a0_5] 132 ?_; intro gb181 hg w25 hbox hb; have BK181 := Aside0.mk hbox; have GW181 := sqg HB hg; have GE181 := sqg HB hg; replace HB := sqs HB hb; clear hb hbox hg) | ((with_reducible refine gate_dst (N := 3) rfl ?_); refine sqx 3 #[.bool a1_0, .slice A1_1 l1_1.length c1_1, .int .i64 a1_2, .int .i64 a1_3, .int .i64 a1_4, .int .i64 a1_5] 132 ?_; intro gb182 hg w26 hbox hb; have BK182 := Aside0.mk hbox; have GW182 := sqg HB hg; have GE182 := sqg HB hg; have NB181_182 := sqn BK181 hg; have NB182_181 := sqm BK181 hg; replace BK181 := sqb BK181 hb; replace HB := sqs HB hb; clear hb hbox hg; have hnb27 := NB181_182.out; have hnc27 := NB182_181.out; obtain ⟨hcz28_0, hcz28_1, hcz28_2, hcz28_3, hcz28_4, hcz28_5, hfz28_0, hfz28_1, hfz28_2, hfz28_3, hfz28_4, hfz28_5⟩ := sqc6 BK181; obtain ⟨hcz29_0, hcz29_1, hcz29_2, hcz29_3, hcz29_4, hcz29_5, hfz29_0, hfz29_1, hfz29_2, hfz29_3, hfz29_4, hfz29_5⟩ := sqc6 BK182) | ((with_reducible refine gate_callee (f := 205) rfl ?_); refine sqL (some 14) Try.func205 #[.slice A0_1 l0_1.length c0_1, .slice A1_1 l1_1.length c1_1] ?_; (with_reducible refine (laws_eqIntS.calls k _ _ l0_1 _ _ l1_1 false _ ?side1 ?side2 ?side3 ?side4 A9.out).mono ?_); (case side1 => exact sqC (Kd.C_below HR0_1.out HB.out)); (case side2 => exact HC0_1.out); (case side3 => exact sqC (Kd.C_below HR1_1.out HB.out)); (case side4 => exact HC1_1.out); rintro e w' ⟨rfl, ⟨nd, rfl⟩⟩; refine ⟨_, rfl, ?_⟩))
  go_ret
  exact sqe HB
 subst c10
 have H1 : ((laws_eqVal.f a0_2 a0_3 a0_4 a0_5 a1_2 a1_3 a1_4 a1_5).bind fun t184 => (if t184 = true then (some true) else (some false))) = some r := by rw [if_pos rfl] at H; exact H
 clear H
 have H := H1
 clear H1
 replace H := sqbi H
 obtain ⟨t184, A11, H⟩ := H
 replace H : (if t184 = true then (some true) else (some false)) = some r := H
 by_cases c12 : t184 = true
 ·subst c12
  have H1 : (some true) = some r := by rw [if_pos rfl] at H; exact H
  clear H
  have H := H1
  clear H1
  obtain rfl := Option.some.inj H
  go_enter Try.func204, Try.ntmps204
  go_wp2_with (first | ((with_reducible refine gate_dst (N := 2) rfl ?_); refine sqx 2 #[.bool a0_0, .slice A0_1 l0_1.length c0_1, .int .i64 a0_2, .int .i64 a0_3, .int .i64 a0_4, .int .i64 a0_5] 132 ?_; intro gb181 hg w13 hbox hb; have BK181 := Aside0.mk hbox; have GW181 := sqg HB hg; have GE181 := sqg HB hg; replace HB := sqs HB hb; clear hb hbox hg) | ((with_reducible refine gate_dst (N := 3) rfl ?_); refine sqx 3 #[.bool a1_0, .slice A1_1 l1_1.length c1_1, .int .i64 a1_2, .int .i64 a1_3, .int .i64 a1_4, .int .i64 a1_5] 132 ?_; intro gb182 hg w14 hbox hb; have BK182 := Aside0.mk hbox; have GW182 := sqg HB hg; have GE182 := sqg HB hg; have NB181_182 := sqn BK181 hg; have NB182_181 := sqm BK181 hg; replace BK181 := sqb BK181 hb; replace HB := sqs HB hb; clear hb hbox hg; have hnb15 := NB181_182.out; have hnc15 := NB182_181.out; obtain ⟨hcz16_0, hcz16_1, hcz16_2, hcz16_3, hcz16_4, hcz16_5, hfz16_0, hfz16_1, hfz16_2, hfz16_3, hfz16_4, hfz16_5⟩ := sqc6 BK181; obtain ⟨hcz17_0, hcz17_1, hcz17_2, hcz17_3, hcz17_4, hcz17_5, hfz17_0, hfz17_1, hfz17_2, hfz17_3, hfz17_4, hfz17_5⟩ := sqc6 BK182) | ((with_reducible refine gate_callee (f := 205) rfl ?_); refine sqL (some 14) Try.func205 #[.slice A0_1 l0_1.length c0_1, .slice A1_1 l1_1.length c1_1] ?_; (with_reducible refine (laws_eqIntS.calls k _ _ l0_1 _ _ l1_1 true _ ?side1 ?side2 ?side3 ?side4 A9.out).mono ?_); (case side1 => exact sqC (Kd.C_below HR0_1.out HB.out)); (case side2 => exact HC0_1.out); (case side3 => exact sqC (Kd.C_below HR1_1.out HB.out)); (case side4 => exact HC1_1.out); rintro e w' ⟨rfl, ⟨nd, rfl⟩⟩; refine ⟨_, rfl, ?_⟩) | ((with_reducible refine gate_callee (f := 203) rfl ?_); refine sqL (some 20) Try.func203 #[.agg #[.int .i64 a0_2, .int .i64 a0_3, .int .i64 a0_4, .int .i64 a0_5], .agg #[.int .i64 a1_2, .int .i64 a1_3, .int .i64 a1_4, .int .i64 a1_5]] ?_; (with_reducible refine (laws_eqVal.calls a0_2 a0_3 a0_4 a0_5 a1_2 a1_3 a1_4 a1_5 true _ A11.out).mono ?_); rintro e w18 ⟨rfl, hb⟩; refine ⟨_, rfl, ?_⟩; refine sqM2 BK181 BK182 hb ?_; clear BK181 BK182; intro BK181 BK182; replace HB := sqs HB hb; (try clear hb)))
  go_ret
  exact sqe HB
 replace c12 := Bool.eq_false_iff.mpr c12
 subst c12
 have H1 : (some false) = some r := by rw [if_neg (show ¬ (false = true) by decide)] at H; exact H
 clear H
 have H := H1
 clear H1
 obtain rfl := Option.some.inj H
 go_enter Try.func204, Try.ntmps204
 go_wp2_with (first | ((with_reducible refine gate_dst (N := 2) rfl ?_); refine sqx 2 #[.bool a0_0, .slice A0_1 l0_1.length c0_1, .int .i64 a0_2, .int .i64 a0_3, .int .i64 a0_4, .int .i64 a0_5] 132 ?_; intro gb181 hg w19 hbox hb; have BK181 := Aside0.mk hbox; have GW181 := sqg HB hg; have GE181 := sqg HB hg; replace HB := sqs HB hb; clear hb hbox hg) | ((with_reducible refine gate_dst (N := 3) rfl ?_); refine sqx 3 #[.bool a1_0, .slice A1_1 l1_1.length c1_1, .int .i64 a1_2, .int .i64 a1_3, .int .i64 a1_4, .int .i64 a1_5] 132 ?_; intro gb182 hg w20 hbox hb; have BK182 := Aside0.mk hbox; have GW182 := sqg HB hg; have GE182 := sqg HB hg; have NB181_182 := sqn BK181 hg; have NB182_181 := sqm BK181 hg; replace BK181 := sqb BK181 hb; replace HB := sqs HB hb; clear hb hbox hg; have hnb21 := NB181_182.out; have hnc21 := NB182_181.out; obtain ⟨hcz22_0, hcz22_1, hcz22_2, hcz22_3, hcz22_4, hcz22_5, hfz22_0, hfz22_1, hfz22_2, hfz22_3, hfz22_4, hfz22_5⟩ := sqc6 BK181; obtain ⟨hcz23_0, hcz23_1, hcz23_2, hcz23_3, hcz23_4, hcz23_5, hfz23_0, hfz23_1, hfz23_2, hfz23_3, hfz23_4, hfz23_5⟩ := sqc6 BK182) | ((with_reducible refine gate_callee (f := 205) rfl ?_); refine sqL (some 14) Try.func205 #[.slice A0_1 l0_1.length c0_1, .slice A1_1 l1_1.length c1_1] ?_; (with_reducible refine (laws_eqIntS.calls k _ _ l0_1 _ _ l1_1 true _ ?side1 ?side2 ?side3 ?side4 A9.out).mono ?_); (case side1 => exact sqC (Kd.C_below HR0_1.out HB.out)); (case side2 => exact HC0_1.out); (case side3 => exact sqC (Kd.C_below HR1_1.out HB.out)); (case side4 => exact HC1_1.out); rintro e w' ⟨rfl, ⟨nd, rfl⟩⟩; refine ⟨_, rfl, ?_⟩) | ((with_reducible refine gate_callee (f := 203) rfl ?_); refine sqL (some 20) Try.func203 #[.agg #[.int .i64 a0_2, .int .i64 a0_3, .int .i64 a0_4, .int .i64 a0_5], .agg #[.int .i64 a1_2, .int .i64 a1_3, .int .i64 a1_4, .int .i64 a1_5]] ?_; (with_reducible refine (laws_eqVal.calls a0_2 a0_3 a0_4 a0_5 a1_2 a1_3 a1_4 a1_5 false _ A11.out).mono ?_); rintro e w24 ⟨rfl, hb⟩; refine ⟨_, rfl, ?_⟩; refine sqM2 BK181 BK182 hb ?_; clear BK181 BK182; intro BK181 BK182; replace HB := sqs HB hb; (try clear hb)))
 go_ret
 exact sqe HB

end Go.Proofs.Ytkekcenlleebeaa.PFnExactAbsIn
