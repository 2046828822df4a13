/- Functions of the program as plain Lean functions, and that calls of them come to what these tell. Conditions: those in each law. -/
import Derived.Test.YtmdcgkkkfncieaaSq
import Derived.Test.YtmdcgkkkfncieaaDFnExactGapsRange
import Derived.Test.YtmdcgkkkfncieaaQFnExactGapsRangex0
import Derived.Test.YtmdcgkkkfncieaaQFnExactGapsRangex1
import Derived.Test.YtmdcgkkkfncieaaQFnExactGapsRangex2
import Derived.Test.YtmdcgkkkfncieaaQFnExactGapsRangex4
namespace Go.Proofs.Ytmdcgkkkfncieaa.PFnExactGapsRange
open Go.RowKit Go.Proofs.Ytmdcgkkkfncieaa.Sq Go.Proofs.YtmdcgkkkfncieaaW.PrintWords Go.Proofs.YtmdcgkkkfncieaaW.PrintLast Go.Proofs.YtmdcgkkkfncieaaW.PrintMore
attribute [local go_sem] max2_int min2_int max_two min_two max_three min_three max_four min_four   -- for this text's walks alone
set_option linter.unusedVariables false
set_option linter.unusedSimpArgs false

/-! ### laws_FnExactGapsRange: function 3 -/
theorem laws_FnExactGapsRange.mono : ∀ a0 a1 a2 k, LeO (laws_FnExactGapsRange.f k a0 a1 a2) (laws_FnExactGapsRange.f (k + 1) a0 a1 a2) := by
  intro a0 a1 a2 k
  unfold laws_FnExactGapsRange.f
  repeat' first
      | (with_reducible exact impl_GapsRange.mono _ _ _ _)
      | (with_reducible exact laws_eqGaps.mono _ _ _ _ _)
      | (with_reducible exact laws_toGaps.mono _ _ _)
      | (with_reducible exact spec_GapsRange.mono _ _ _ _)
      | (with_reducible exact LeO.refl _)
      | (with_reducible exact LeO.none _)
      | (with_reducible refine LeO.ite ?_ ?_)
      | (with_reducible refine LeO.bind ?_ (fun _ => ?_))
      | exact impl_GapsRange.mono _ _ _ _
      | exact laws_eqGaps.mono _ _ _ _ _
      | exact laws_toGaps.mono _ _ _
      | exact spec_GapsRange.mono _ _ _ _
      | exact LeO.none _
      | refine LeO.ite ?_ ?_
      | refine LeO.bind ?_ (fun _ => ?_)
set_option maxHeartbeats 8000000 in
set_option maxRecDepth 100000 in
theorem laws_FnExactGapsRange.calls (k : Nat) (a0_0 : Int) (A0_1 : Option Addr) (c0_1 : Nat) (l0_1 : List Int) (a1 : Int) (r : Bool) (w : World) (hr0_1 : Kd.C (Kd.int .i64) w A0_1 l0_1.length l0_1) (hc0_1 : l0_1.length ≤ c0_1) (h : laws_FnExactGapsRange.f k a0_0 l0_1 a1 = some r) :
    Calls Try.prog 3 #[.agg #[.int .i64 a0_0, .slice A0_1 l0_1.length c0_1], .int .i64 a1] w fun e w' => e = .returned (.bool r) ∧ Below w.heap.size w w' := by
  have hu24 := Try.underlying24
  have hu27 := Try.underlying27
  have hu29 := Try.underlying29
  have HR0_1 := Aside0.mk hr0_1
  have HC0_1 := Aside0.mk hc0_1
  clear hr0_1 hc0_1
  have HB := Aside0.mk (Below.refl w.heap.size w)
  have H : ((laws_szGaps.f a0_0 l0_1 1048576).bind fun t165 => (if t165 < 0 then (some true) else ((laws_toGaps.f k a0_0 l0_1).bind fun bt166 => ((spec_GapsRange.f k bt166.1 bt166.2 a1).bind fun bt170 => ((laws_toGaps.f k a0_0 l0_1).bind fun bt173 => ((impl_GapsRange.f k bt173.1 bt173.2 a1).bind fun bt178 => ((laws_eqRange.f bt178.1 bt178.2 bt170.1 bt170.2).bind fun t181 => (if t181 = true then ((laws_toGaps.f k a0_0 l0_1).bind fun bt182 => ((laws_eqGaps.f k bt173.1 bt173.2 bt182.1 bt182.2).bind fun t186 => (if t186 = true then (some true) else (some false)))) else (some false))))))))) = some r := h
  clear h
  replace H := Option.bind_eq_some_iff.mp H
  obtain ⟨t165, A30, H⟩ := H
  replace H : (if t165 < 0 then (some true) else ((laws_toGaps.f k a0_0 l0_1).bind fun bt166 => ((spec_GapsRange.f k bt166.1 bt166.2 a1).bind fun bt170 => ((laws_toGaps.f k a0_0 l0_1).bind fun bt173 => ((impl_GapsRange.f k bt173.1 bt173.2 a1).bind fun bt178 => ((laws_eqRange.f bt178.1 bt178.2 bt170.1 bt170.2).bind fun t181 => (if t181 = true then ((laws_toGaps.f k a0_0 l0_1).bind fun bt182 => ((laws_eqGaps.f k bt173.1 bt173.2 bt182.1 bt182.2).bind fun t186 => (if t186 = true then (some true) else (some false)))) else (some false)))))))) = some r := H
  have A3 := Aside0.mk A30
  clear A30
  by_cases c4 : t165 < 0
  · rw [if_pos c4] at H
    have c4b0 : decide (t165 < 0) = true := decide_eq_true c4
    clear c4
    obtain rfl := Option.some.inj H
    go_enter Try.func3, Try.ntmps3
    go_wp2_with (first | ((with_reducible refine gate_dst (N := 2) rfl ?_); refine sqx 2 #[.int .i64 a0_0, .slice A0_1 l0_1.length c0_1] 24 ?_; intro gb164 hg w5 hbox hb; have BK164 := Aside0.mk (hbox); have GW164 := sqg HB hg; have GE164 := sqg HB hg; replace HB := sqs HB hb; clear hb hbox hg; obtain ⟨hcz6_0, hcz6_1, hfz6_0, hfz6_1⟩ := sqc2 BK164) | ((with_reducible refine gate_callee (f := 14) rfl ?_); refine sqL (some 11) Try.func14 #[.agg #[.int .i64 a0_0, .slice A0_1 l0_1.length c0_1], .int .i64 1048576] ?_; (with_reducible refine (laws_szGaps.calls a0_0 _ _ l0_1 1048576 t165 _ ?side1 ?side2 A3.out).mono ?_); (case side1 => repeat (first | exact (Kd.C_below HR0_1.out HB.out) | (with_reducible refine Kd.C_alloc ?_ _) | (with_reducible refine Kd.C_drewN ?_ _) | (with_reducible refine Kd.C_drew ?_))); (case side2 => exact HC0_1.out); rintro e w7 ⟨rfl, hb⟩; refine ⟨_, rfl, ?_⟩; replace BK164 := sqb BK164 hb; replace HB := sqs HB hb; (try clear hb)))
    go_ret
    exact sqe HB
  · rw [if_neg c4] at H
    have c4b0 : decide (t165 < 0) = false := decide_eq_false c4
    clear c4
    replace H := Option.bind_eq_some_iff.mp H
    obtain ⟨⟨t166, t167⟩, A80, H⟩ := H
    replace H : ((spec_GapsRange.f k t166 t167 a1).bind fun bt170 => ((laws_toGaps.f k a0_0 l0_1).bind fun bt173 => ((impl_GapsRange.f k bt173.1 bt173.2 a1).bind fun bt178 => ((laws_eqRange.f bt178.1 bt178.2 bt170.1 bt170.2).bind fun t181 => (if t181 = true then ((laws_toGaps.f k a0_0 l0_1).bind fun bt182 => ((laws_eqGaps.f k bt173.1 bt173.2 bt182.1 bt182.2).bind fun t186 => (if t186 = true then (some true) else (some false)))) else (some false)))))) = some r := H
    have A8 := Aside0.mk A80
    clear A80
    replace H := Option.bind_eq_some_iff.mp H
    obtain ⟨⟨t170, t171⟩, A90, H⟩ := H
    replace H : ((laws_toGaps.f k a0_0 l0_1).bind fun bt173 => ((impl_GapsRange.f k bt173.1 bt173.2 a1).bind fun bt178 => ((laws_eqRange.f bt178.1 bt178.2 t170 t171).bind fun t181 => (if t181 = true then ((laws_toGaps.f k a0_0 l0_1).bind fun bt182 => ((laws_eqGaps.f k bt173.1 bt173.2 bt182.1 bt182.2).bind fun t186 => (if t186 = true then (some true) else (some false)))) else (some false))))) = some r := H
    have A9 := Aside0.mk A90
    clear A90
    replace H := Option.bind_eq_some_iff.mp H
    obtain ⟨⟨t173, t174⟩, A100, H⟩ := H
    replace H : ((impl_GapsRange.f k t173 t174 a1).bind fun bt178 => ((laws_eqRange.f bt178.1 bt178.2 t170 t171).bind fun t181 => (if t181 = true then ((laws_toGaps.f k a0_0 l0_1).bind fun bt182 => ((laws_eqGaps.f k t173 t174 bt182.1 bt182.2).bind fun t186 => (if t186 = true then (some true) else (some false)))) else (some false)))) = some r := H
    have A10 := Aside0.mk A100
    clear A100
    replace H := Option.bind_eq_some_iff.mp H
    obtain ⟨⟨t178, t179⟩, A110, H⟩ := H
    replace H : ((laws_eqRange.f t178 t179 t170 t171).bind fun t181 => (if t181 = true then ((laws_toGaps.f k a0_0 l0_1).bind fun bt182 => ((laws_eqGaps.f k t173 t174 bt182.1 bt182.2).bind fun t186 => (if t186 = true then (some true) else (some false)))) else (some false))) = some r := H
    have A11 := Aside0.mk A110
    clear A110
    replace H := Option.bind_eq_some_iff.mp H
    obtain ⟨t181, A120, H⟩ := H
    replace H : (if t181 = true then ((laws_toGaps.f k a0_0 l0_1).bind fun bt182 => ((laws_eqGaps.f k t173 t174 bt182.1 bt182.2).bind fun t186 => (if t186 = true then (some true) else (some false)))) else (some false)) = some r := H
    have A12 := Aside0.mk A120
    clear A120
    by_cases c13 : t181 = true
    · subst c13
      have H1 : ((laws_toGaps.f k a0_0 l0_1).bind fun bt182 => ((laws_eqGaps.f k t173 t174 bt182.1 bt182.2).bind fun t186 => (if t186 = true then (some true) else (some false)))) = some r := by rw [if_pos rfl] at H; exact H
      clear H
      have H := H1
      clear H1
      replace H := Option.bind_eq_some_iff.mp H
      obtain ⟨⟨t182, t183⟩, A140, H⟩ := H
      replace H : ((laws_eqGaps.f k t173 t174 t182 t183).bind fun t186 => (if t186 = true then (some true) else (some false))) = some r := H
      have A14 := Aside0.mk A140
      clear A140
      replace H := Option.bind_eq_some_iff.mp H
      obtain ⟨t186, A150, H⟩ := H
      replace H : (if t186 = true then (some true) else (some false)) = some r := H
      have A15 := Aside0.mk A150
      clear A150
      by_cases c16 : t186 = true
      · subst c16
        have H1 : (some true) = some r := by rw [if_pos rfl] at H; exact H
        clear H
        have H := H1
        clear H1
        obtain rfl := Option.some.inj H
        go_enter Try.func3, Try.ntmps3
        try go_wp2_with (first | ((with_reducible refine gate_dst (N := 2) rfl ?_); refine sqx 2 #[.int .i64 a0_0, .slice A0_1 l0_1.length c0_1] 24 ?_; intro gb164 hg w17 hbox hb; have BK164 := Aside0.mk (hbox); have GW164 := sqg HB hg; have GE164 := sqg HB hg; replace HB := sqs HB hb; clear hb hbox hg; obtain ⟨hcz18_0, hcz18_1, hfz18_0, hfz18_1⟩ := sqc2 BK164) | ((with_reducible refine gate_callee (f := 14) rfl ?_); refine sqL (some 11) Try.func14 #[.agg #[.int .i64 a0_0, .slice A0_1 l0_1.length c0_1], .int .i64 1048576] ?_; (with_reducible refine (laws_szGaps.calls a0_0 _ _ l0_1 1048576 t165 _ ?side1 ?side2 A3.out).mono ?_); (case side1 => repeat (first | exact (Kd.C_below HR0_1.out HB.out) | (with_reducible refine Kd.C_alloc ?_ _) | (with_reducible refine Kd.C_drewN ?_ _) | (with_reducible refine Kd.C_drew ?_))); (case side2 => exact HC0_1.out); rintro e w19 ⟨rfl, hb⟩; refine ⟨_, rfl, ?_⟩; replace BK164 := sqb BK164 hb; replace HB := sqs HB hb; (try clear hb); obtain ⟨hcz20_0, hcz20_1, hfz20_0, hfz20_1⟩ := sqc2 BK164) | ((with_reducible refine gate_callee (f := 16) rfl ?_); refine sqL (some 15) Try.func16 #[.agg #[.int .i64 a0_0, .slice A0_1 l0_1.length c0_1]] ?_; (with_reducible refine (laws_toGaps.calls k a0_0 _ _ l0_1 t166 t167 _ ?side1 ?side2 A8.out).mono ?_); (case side1 => repeat (first | exact (Kd.C_below HR0_1.out HB.out) | (with_reducible refine Kd.C_alloc ?_ _) | (with_reducible refine Kd.C_drewN ?_ _) | (with_reducible refine Kd.C_drew ?_))); (case side2 => exact HC0_1.out); rintro e w21 ⟨v168, rfl, ho0, hb⟩; refine ⟨_, rfl, ?_⟩; have HO169 := Aside0.mk (Kd.R_lower ho0 (below_size (by repeat (first | (with_reducible first | exact HB.out | apply below_alloc | apply pw_below_drewN | apply below_drew1 | refine below_set ?_ GE164.out) | exact HB.out)))); replace BK164 := sqb BK164 hb; replace HB := sqs HB hb; (try clear hb); (try clear hb2); (try clear hk); (try clear hi); (try clear ho0); obtain ⟨Ao22, co22, eo22⟩ := Kd.R_slice HO169.out; subst eo22) | ((with_reducible refine gate_callee (f := 15) rfl ?_); refine sqL (some 17) Try.func15 #[.agg #[.int .i64 t166, .slice Ao22 t167.length co22], .int .i64 a1] ?_; (with_reducible refine (spec_GapsRange.calls k t166 _ _ t167 a1 t170 t171 _ ?side1 ?side2 A9.out).mono ?_); (case side1 => repeat (first | exact (Kd.R_reads' HO169.out).2.2 | (with_reducible refine Kd.C_alloc ?_ _) | (with_reducible refine Kd.C_drewN ?_ _) | (with_reducible refine Kd.C_drew ?_))); (case side2 => exact (Kd.R_reads' HO169.out).2.1); rintro e w23 ⟨rfl, hb⟩; refine ⟨_, rfl, ?_⟩; have n0_ := Aside0.mk (Kd.R_below (by (with_reducible repeat (first | apply Kd.R_alloc | apply Kd.R_drewN | apply Kd.R_drew)); exact HO169.out) hb); have n1_ := sqb BK164 hb; have n2_ := sqs HB hb; clear HO169; clear BK164; clear HB; have HO169 := n0_; have BK164 := n1_; have HB := n2_; clear n0_ n1_ n2_; (try clear hb)) | ((with_reducible refine gate_dst (N := 6) rfl ?_); refine sqx 6 #[.int .i64 0, .int .i64 0] 27 ?_; intro gb172 hg w24 hbox hb; have n0_ := Aside0.mk (Kd.R_below (by (with_reducible repeat (first | apply Kd.R_alloc | apply Kd.R_drewN | apply Kd.R_drew)); exact HO169.out) hb); have n1_ := sqb BK164 hb; have n2_ := sqs HB hb; have n3_ := Aside0.mk (hbox); have n4_ := sqg HB hg; have n5_ := sqg HB hg; have n6_ := sqn BK164 hg; have n7_ := sqm BK164 hg; clear HO169; clear BK164; clear HB; have HO169 := n0_; have BK164 := n1_; have HB := n2_; have BK172 := n3_; have GW172 := n4_; have GE172 := n5_; have NB164_172 := n6_; have NB172_164 := n7_; clear n0_ n1_ n2_ n3_ n4_ n5_ n6_ n7_; clear hb hbox hg; have hnb25 := NB172_164.out; have hnc25 := NB164_172.out; obtain ⟨hcz26_0, hcz26_1, hfz26_0, hfz26_1⟩ := sqc2 BK172; obtain ⟨hcz27_0, hcz27_1, hfz27_0, hfz27_1⟩ := sqc2 BK164) | ((with_reducible refine gate_callee (f := 16) rfl ?_); refine sqL (some 19) Try.func16 #[.agg #[.int .i64 a0_0, .slice A0_1 l0_1.length c0_1]] ?_; (with_reducible refine (laws_toGaps.calls k a0_0 _ _ l0_1 t173 t174 _ ?side1 ?side2 A10.out).mono ?_); (case side1 => exact Kd.C_below HR0_1.out (by repeat (first | (with_reducible first | exact HB.out | apply below_alloc | apply pw_below_drewN | apply below_drew1 | refine below_set ?_ GE164.out | refine below_set ?_ GE172.out) | exact HB.out))); (case side2 => exact HC0_1.out); rintro e w28 ⟨v175, rfl, ho0, hb⟩; refine ⟨_, rfl, ?_⟩; have n0_ := Aside0.mk (Kd.R_elder' (by (with_reducible repeat (first | apply Kd.R_alloc | apply Kd.R_drewN | apply Kd.R_drew)); exact (Kd.R_mono (Kd.R_far (p := ⟨gb172, 1, none⟩) (Kd.R_far (p := ⟨gb172, 0, none⟩) (Kd.R_types HO169.out BK172.out (by decide)) (fun _ hk => hk.2) (.int .i64 t170)) (fun _ hk => hk.2) (.int .i64 t171)) (fun _ h_ => h_.1))) (Kd.R_base ho0) hb); have n1_ := Aside0.mk (Kd.R_lower (Kd.R_new' ho0 (Kd.R_lt (by (with_reducible repeat (first | apply Kd.R_alloc | apply Kd.R_drewN | apply Kd.R_drew)); exact (Kd.R_mono (Kd.R_far (p := ⟨gb172, 1, none⟩) (Kd.R_far (p := ⟨gb172, 0, none⟩) (Kd.R_types HO169.out BK172.out (by decide)) (fun _ hk => hk.2) (.int .i64 t170)) (fun _ hk => hk.2) (.int .i64 t171)) (fun _ h_ => h_.1))))) (below_size (by repeat (first | (with_reducible first | exact HB.out | apply below_alloc | apply pw_below_drewN | apply below_drew1 | refine below_set ?_ GE164.out | refine below_set ?_ GE172.out) | exact HB.out)))); have n2_ := Aside0.mk (blk_below (g := gb164) (o := .cells #[.int .i64 a0_0, .slice A0_1 l0_1.length c0_1] 24 (0, 0)) (by refine sqt ?_; refine blk_far ?_ NB164_172.out _; refine sqt ?_; refine blk_far ?_ NB164_172.out _; refine sqt ?_; exact BK164.out) hb); have n3_ := Aside0.mk (blk_below (g := gb172) (o := .cells #[.int .i64 t170, .int .i64 t171] 27 (0, 0)) (by refine sqt ?_; refine blk_put (cs := #[.int .i64 t170, .int .i64 0]) ?_ 1 _ rfl; refine sqt ?_; refine blk_put (cs := #[.int .i64 0, .int .i64 0]) ?_ 0 _ rfl; refine sqt ?_; exact BK172.out) hb); have n4_ := sqs HB hb; clear HO169; clear BK164; clear BK172; clear HB; have HO169 := n0_; have HO176 := n1_; have BK164 := n2_; have BK172 := n3_; have HB := n4_; clear n0_ n1_ n2_ n3_ n4_; (try clear hb); (try clear hb2); (try clear hk); (try clear hi); (try clear ho0)) | ((with_reducible refine gate_dst (N := 7) rfl ?_); refine sqx 7 #[.int .i64 0, .slice none 0 0] 29 ?_; intro gb177 hg w29 hbox hb; have n0_ := Aside0.mk (Kd.R_below (by (with_reducible repeat (first | apply Kd.R_alloc | apply Kd.R_drewN | apply Kd.R_drew)); exact HO169.out) hb); have n1_ := Aside0.mk (Kd.R_below (by (with_reducible repeat (first | apply Kd.R_alloc | apply Kd.R_drewN | apply Kd.R_drew)); exact HO176.out) hb); have n2_ := sqb BK164 hb; have n3_ := sqb BK172 hb; have n4_ := sqs HB hb; have n5_ := Aside0.mk (hbox); have n6_ := sqg HB hg; have n7_ := sqg HB hg; have n8_ := sqn BK164 hg; have n9_ := sqm BK164 hg; have n10_ := sqn BK172 hg; have n11_ := sqm BK172 hg; clear HO169; clear HO176; clear BK164; clear BK172; clear HB; have HO169 := n0_; have HO176 := n1_; have BK164 := n2_; have BK172 := n3_; have HB := n4_; have BK177 := n5_; have GW177 := n6_; have GE177 := n7_; have NB164_177 := n8_; have NB177_164 := n9_; have NB172_177 := n10_; have NB177_172 := n11_; clear n0_ n1_ n2_ n3_ n4_ n5_ n6_ n7_ n8_ n9_ n10_ n11_; clear hb hbox hg; have hnb30 := NB177_164.out; have hnc30 := NB164_177.out; have hnb31 := NB177_172.out; have hnc31 := NB172_177.out; obtain ⟨hcz32_0, hcz32_1, hfz32_0, hfz32_1⟩ := sqc2 BK177; obtain ⟨Ao33, co33, eo33⟩ := Kd.R_slice HO176.out; subst eo33) | ((with_reducible refine gate_callee (f := 17) rfl ?_); refine sqL (some 22) Try.func17 #[.agg #[.int .i64 t173, .slice Ao33 t174.length co33], .int .i64 a1] ?_; (with_reducible refine (impl_GapsRange.calls k t173 _ _ t174 a1 t178 t179 _ ?side1 ?side2 A11.out).mono ?_); (case side1 => refine (Kd.R_reads' (e := 3) (base := w.heap.size) (ok := fun k_ => (True ∧ some k_ ≠ (.slice Ao22 t167.length co22 : Value).ownBlock)) (n := t174.length) (c := co33) ?_).2.2; exact (by (with_reducible repeat (first | apply Kd.R_alloc | apply Kd.R_drewN | apply Kd.R_drew)); exact (Kd.R_mono (Kd.R_far (p := ⟨gb177, 1, none⟩) (Kd.R_far (p := ⟨gb177, 0, none⟩) (Kd.R_types HO176.out BK177.out (by decide)) (fun _ hk => hk.2) (.int .i64 t173)) (fun _ hk => hk.2) (.slice Ao33 t174.length co33)) (fun _ h_ => h_.1)))); (case side2 => exact (Kd.R_reads' HO176.out).2.1); rintro e w34 ⟨rfl, hb⟩; refine ⟨_, rfl, ?_⟩; have n0_ := Aside0.mk (Kd.R_below (by (with_reducible repeat (first | apply Kd.R_alloc | apply Kd.R_drewN | apply Kd.R_drew)); exact (Kd.R_mono (Kd.R_far (p := ⟨gb177, 1, none⟩) (Kd.R_far (p := ⟨gb177, 0, none⟩) (Kd.R_types HO169.out BK177.out (by decide)) (fun _ hk => hk.2) (.int .i64 t173)) (fun _ hk => hk.2) (.slice Ao33 t174.length co33)) (fun _ h_ => h_.1))) hb); have n1_ := Aside0.mk (Kd.R_below (by (with_reducible repeat (first | apply Kd.R_alloc | apply Kd.R_drewN | apply Kd.R_drew)); exact (Kd.R_mono (Kd.R_far (p := ⟨gb177, 1, none⟩) (Kd.R_far (p := ⟨gb177, 0, none⟩) (Kd.R_types HO176.out BK177.out (by decide)) (fun _ hk => hk.2) (.int .i64 t173)) (fun _ hk => hk.2) (.slice Ao33 t174.length co33)) (fun _ h_ => h_.1))) hb); have n2_ := Aside0.mk (blk_below (g := gb164) (o := .cells #[.int .i64 a0_0, .slice A0_1 l0_1.length c0_1] 24 (0, 0)) (by refine sqt ?_; refine blk_far ?_ NB164_177.out _; refine sqt ?_; refine blk_far ?_ NB164_177.out _; refine sqt ?_; exact BK164.out) hb); have n3_ := Aside0.mk (blk_below (g := gb172) (o := .cells #[.int .i64 t170, .int .i64 t171] 27 (0, 0)) (by refine sqt ?_; refine blk_far ?_ NB172_177.out _; refine sqt ?_; refine blk_far ?_ NB172_177.out _; refine sqt ?_; exact BK172.out) hb); have n4_ := Aside0.mk (blk_below (g := gb177) (o := .cells #[.int .i64 t173, .slice Ao33 t174.length co33] 29 (0, 0)) (by refine sqt ?_; refine blk_put (cs := #[.int .i64 t173, .slice none 0 0]) ?_ 1 _ rfl; refine sqt ?_; refine blk_put (cs := #[.int .i64 0, .slice none 0 0]) ?_ 0 _ rfl; refine sqt ?_; exact BK177.out) hb); have n5_ := sqs HB hb; clear HO169; clear HO176; clear BK164; clear BK172; clear BK177; clear HB; have HO169 := n0_; have HO176 := n1_; have BK164 := n2_; have BK172 := n3_; have BK177 := n4_; have HB := n5_; clear n0_ n1_ n2_ n3_ n4_ n5_; (try clear hb); (try clear hb2); (try clear hk); (try clear hi)) | ((with_reducible refine gate_dst (N := 8) rfl ?_); refine sqx 8 #[.int .i64 0, .int .i64 0] 27 ?_; intro gb180 hg w35 hbox hb; have n0_ := Aside0.mk (Kd.R_below (by (with_reducible repeat (first | apply Kd.R_alloc | apply Kd.R_drewN | apply Kd.R_drew)); exact HO169.out) hb); have n1_ := Aside0.mk (Kd.R_below (by (with_reducible repeat (first | apply Kd.R_alloc | apply Kd.R_drewN | apply Kd.R_drew)); exact HO176.out) hb); have n2_ := sqb BK164 hb; have n3_ := sqb BK172 hb; have n4_ := sqb BK177 hb; have n5_ := sqs HB hb; have n6_ := Aside0.mk (hbox); have n7_ := sqg HB hg; have n8_ := sqg HB hg; have n9_ := sqn BK164 hg; have n10_ := sqm BK164 hg; have n11_ := sqn BK172 hg; have n12_ := sqm BK172 hg; have n13_ := sqn BK177 hg; have n14_ := sqm BK177 hg; clear HO169; clear HO176; clear BK164; clear BK172; clear BK177; clear HB; have HO169 := n0_; have HO176 := n1_; have BK164 := n2_; have BK172 := n3_; have BK177 := n4_; have HB := n5_; have BK180 := n6_; have GW180 := n7_; have GE180 := n8_; have NB164_180 := n9_; have NB180_164 := n10_; have NB172_180 := n11_; have NB180_172 := n12_; have NB177_180 := n13_; have NB180_177 := n14_; clear n0_ n1_ n2_ n3_ n4_ n5_ n6_ n7_ n8_ n9_ n10_ n11_ n12_ n13_ n14_; clear hb hbox hg; have hnb36 := NB180_164.out; have hnc36 := NB164_180.out; have hnb37 := NB180_172.out; have hnc37 := NB172_180.out; have hnb38 := NB180_177.out; have hnc38 := NB177_180.out; obtain ⟨hcz39_0, hcz39_1, hfz39_0, hfz39_1⟩ := sqc2 BK180; obtain ⟨hcz40_0, hcz40_1, hfz40_0, hfz40_1⟩ := sqc2 BK172) | ((with_reducible refine gate_callee (f := 18) rfl ?_); refine sqL (some 25) Try.func18 #[.agg #[.int .i64 t178, .int .i64 t179], .agg #[.int .i64 t170, .int .i64 t171]] ?_; (with_reducible refine (laws_eqRange.calls t178 t179 t170 t171 true _ A12.out).mono ?_); rintro e w41 ⟨rfl, hb⟩; refine ⟨_, rfl, ?_⟩; have n0_ := Aside0.mk (Kd.R_below (by (with_reducible repeat (first | apply Kd.R_alloc | apply Kd.R_drewN | apply Kd.R_drew)); exact (Kd.R_mono (Kd.R_far (p := ⟨gb180, 1, none⟩) (Kd.R_far (p := ⟨gb180, 0, none⟩) (Kd.R_types HO169.out BK180.out (by decide)) (fun _ hk => hk.2) (.int .i64 t178)) (fun _ hk => hk.2) (.int .i64 t179)) (fun _ h_ => h_.1))) hb); have n1_ := Aside0.mk (Kd.R_below (by (with_reducible repeat (first | apply Kd.R_alloc | apply Kd.R_drewN | apply Kd.R_drew)); exact (Kd.R_mono (Kd.R_far (p := ⟨gb180, 1, none⟩) (Kd.R_far (p := ⟨gb180, 0, none⟩) (Kd.R_types HO176.out BK180.out (by decide)) (fun _ hk => hk.2) (.int .i64 t178)) (fun _ hk => hk.2) (.int .i64 t179)) (fun _ h_ => h_.1))) hb); have n2_ := Aside0.mk (blk_below (g := gb164) (o := .cells #[.int .i64 a0_0, .slice A0_1 l0_1.length c0_1] 24 (0, 0)) (by refine sqt ?_; refine blk_far ?_ NB164_180.out _; refine sqt ?_; refine blk_far ?_ NB164_180.out _; refine sqt ?_; exact BK164.out) hb); have n3_ := Aside0.mk (blk_below (g := gb172) (o := .cells #[.int .i64 t170, .int .i64 t171] 27 (0, 0)) (by refine sqt ?_; refine blk_far ?_ NB172_180.out _; refine sqt ?_; refine blk_far ?_ NB172_180.out _; refine sqt ?_; exact BK172.out) hb); have n4_ := Aside0.mk (blk_below (g := gb177) (o := .cells #[.int .i64 t173, .slice Ao33 t174.length co33] 29 (0, 0)) (by refine sqt ?_; refine blk_far ?_ NB177_180.out _; refine sqt ?_; refine blk_far ?_ NB177_180.out _; refine sqt ?_; exact BK177.out) hb); have n5_ := Aside0.mk (blk_below (g := gb180) (o := .cells #[.int .i64 t178, .int .i64 t179] 27 (0, 0)) (by refine sqt ?_; refine blk_put (cs := #[.int .i64 t178, .int .i64 0]) ?_ 1 _ rfl; refine sqt ?_; refine blk_put (cs := #[.int .i64 0, .int .i64 0]) ?_ 0 _ rfl; refine sqt ?_; exact BK180.out) hb); have n6_ := sqs HB hb; clear HO169; clear HO176; clear BK164; clear BK172; clear BK177; clear BK180; clear HB; have HO169 := n0_; have HO176 := n1_; have BK164 := n2_; have BK172 := n3_; have BK177 := n4_; have BK180 := n5_; have HB := n6_; clear n0_ n1_ n2_ n3_ n4_ n5_ n6_; (try clear hb); (try clear hb2); (try clear hk); (try clear hi)))
        replace HO169 := Aside0.mk (Kd.R_drew HO169.out)
        replace HO176 := Aside0.mk (Kd.R_drew HO176.out)
        replace BK164 := Aside0.mk (blk_drew BK164.out)
        replace BK172 := Aside0.mk (blk_drew BK172.out)
        replace BK177 := Aside0.mk (blk_drew BK177.out)
        replace BK180 := Aside0.mk (blk_drew BK180.out)
        replace HB := Aside0.mk (below_drew1 HB.out)
        refine start_ (n := 5) (S := fun w' => w'.cell? ⟨gb177, 0, none⟩ = some (.int .i64 t173) ∧ w'.cell? ⟨gb177, 1, none⟩ = some (.slice Ao33 t174.length co33) ∧ w'.cell? ⟨gb164, 0, none⟩ = some (.int .i64 a0_0) ∧ w'.cell? ⟨gb164, 1, none⟩ = some (.slice A0_1 l0_1.length c0_1)) (ds := []) #[false, false, false, false, false] (by kernel_rfl) rfl rfl ⟨(blk_cell BK177.out 0).trans rfl, (blk_cell BK177.out 1).trans rfl, (blk_cell BK164.out 0).trans rfl, (blk_cell BK164.out 1).trans rfl⟩ (fun hHeld => ?_)
        generalize w41.drew = w42 at HO169 HO176 BK164 BK172 BK177 BK180 HB hHeld ⊢
        refine take_ (i := 0) (N := some 27) (v := ?_) (a' := ?_) #[true, false, false, false, false] rfl rfl (by kernel_rfl) (fun _ _ _ h => h) (Or.inl ⟨by rfl, ?_⟩) hHeld ?_ ?_
        rotate_left
        · rintro w' ⟨s0, s1, s2, s3⟩
          go_simp
          with_reducible rfl
        rotate_left
        · simp only [Act.put, List.setIfInBounds_toArray, List.set_cons_zero, List.set_cons_succ, i64_w, i32_w]
          rfl
        refine take_ (i := 1) (N := some 28) (v := ?_) (a' := ?_) #[true, true, false, false, false] rfl rfl (by kernel_rfl) (fun _ _ _ h => h) (Or.inl ⟨by rfl, ?_⟩) hHeld ?_ ?_
        rotate_left
        · rintro w' ⟨s0, s1, s2, s3⟩
          go_simp
          with_reducible rfl
        rotate_left
        · simp only [Act.put, List.setIfInBounds_toArray, List.set_cons_zero, List.set_cons_succ, i64_w, i32_w]
          rfl
        refine one_ (i := 2) (N := some 29) #[true, true, true, false, false] rfl rfl (by kernel_rfl) (by decide) (fun K hK => ?_)
        refine sqG Try.func16 #[.agg #[.int .i64 a0_0, .slice A0_1 l0_1.length c0_1]] ?_
        with_reducible refine (laws_toGaps.calls k a0_0 _ _ l0_1 t182 t183 _ ?side1 ?side2 A14.out).mono ?_
        (case side1 => repeat (first | exact (Kd.C_below HR0_1.out HB.out) | (with_reducible refine Kd.C_alloc ?_ _) | (with_reducible refine Kd.C_drewN ?_ _) | (with_reducible refine Kd.C_drew ?_)))
        (case side2 => exact HC0_1.out)
        rintro e w43 ⟨v184, rfl, ho0, hb⟩
        refine ⟨_, rfl, ?_⟩
        have n0_ := Aside0.mk (Kd.R_elder' (by (with_reducible repeat (first | apply Kd.R_alloc | apply Kd.R_drewN | apply Kd.R_drew)); exact HO169.out) (Kd.R_base ho0) hb)
        have n1_ := Aside0.mk (Kd.R_elder' (by (with_reducible repeat (first | apply Kd.R_alloc | apply Kd.R_drewN | apply Kd.R_drew)); exact HO176.out) (Kd.R_base ho0) hb)
        have n2_ := Aside0.mk (Kd.R_lower (Kd.R_new' (Kd.R_new' ho0 (Kd.R_lt (by (with_reducible repeat (first | apply Kd.R_alloc | apply Kd.R_drewN | apply Kd.R_drew)); exact HO169.out))) (Kd.R_lt (by (with_reducible repeat (first | apply Kd.R_alloc | apply Kd.R_drewN | apply Kd.R_drew)); exact HO176.out))) (below_size (by repeat (first | (with_reducible first | exact HB.out | apply below_alloc | apply pw_below_drewN | apply below_drew1 | refine below_set ?_ GE164.out | refine below_set ?_ GE172.out | refine below_set ?_ GE177.out | refine below_set ?_ GE180.out) | exact HB.out))))
        have n3_ := sqb BK164 hb
        have n4_ := sqb BK172 hb
        have n5_ := sqb BK177 hb
        have n6_ := sqb BK180 hb
        have n7_ := sqs HB hb
        clear HO169
        clear HO176
        clear BK164
        clear BK172
        clear BK177
        clear BK180
        clear HB
        have HO169 := n0_
        have HO176 := n1_
        have HO185 := n2_
        have BK164 := n3_
        have BK172 := n4_
        have BK177 := n5_
        have BK180 := n6_
        have HB := n7_
        clear n0_ n1_ n2_ n3_ n4_ n5_ n6_ n7_
        (try clear hb)
        (try clear hb2)
        (try clear hk)
        (try clear hi)
        (try clear ho0)
        obtain ⟨Ao44, co44, eo44⟩ := Kd.R_slice HO185.out
        (first | subst eo44 | (injection eo44 with f1_ f2_ f3_; have f4_ := f1_.symm; have f5_ := f3_.symm; clear f1_ f2_ f3_; subst f4_; subst f5_))
        refine hK.out _ _ sqz (fun hHeld => ?_)
        clear hK K
        refine sqnm ?_
        refine one_ (i := 3) (N := some 30) #[true, true, true, true, false] rfl rfl (by kernel_rfl) (by decide) (fun K hK => ?_)
        refine sqG Try.func19 #[.agg #[.int .i64 t173, .slice Ao33 t174.length co33], .agg #[.int .i64 t182, .slice Ao44 t183.length co44]] ?_
        with_reducible refine (laws_eqGaps.calls k t173 _ _ t174 t182 _ _ t183 true _ ?side1 ?side2 ?side3 ?side4 A15.out).mono ?_
        (case side1 => repeat (first | exact (Kd.R_reads' HO176.out).2.2 | (with_reducible refine Kd.C_alloc ?_ _) | (with_reducible refine Kd.C_drewN ?_ _) | (with_reducible refine Kd.C_drew ?_)))
        (case side2 => exact (Kd.R_reads' HO176.out).2.1)
        (case side3 => repeat (first | exact (Kd.R_reads' HO185.out).2.2 | (with_reducible refine Kd.C_alloc ?_ _) | (with_reducible refine Kd.C_drewN ?_ _) | (with_reducible refine Kd.C_drew ?_)))
        (case side4 => exact (Kd.R_reads' HO185.out).2.1)
        rintro e w45 ⟨rfl, hb⟩
        refine ⟨_, rfl, ?_⟩
        have n0_ := Aside0.mk (Kd.R_below (by (with_reducible repeat (first | apply Kd.R_alloc | apply Kd.R_drewN | apply Kd.R_drew)); exact HO169.out) hb)
        have n1_ := Aside0.mk (Kd.R_below (by (with_reducible repeat (first | apply Kd.R_alloc | apply Kd.R_drewN | apply Kd.R_drew)); exact HO176.out) hb)
        have n2_ := Aside0.mk (Kd.R_below (by (with_reducible repeat (first | apply Kd.R_alloc | apply Kd.R_drewN | apply Kd.R_drew)); exact HO185.out) hb)
        have n3_ := sqb BK164 hb
        have n4_ := sqb BK172 hb
        have n5_ := sqb BK177 hb
        have n6_ := sqb BK180 hb
        have n7_ := sqs HB hb
        clear HO169
        clear HO176
        clear HO185
        clear BK164
        clear BK172
        clear BK177
        clear BK180
        clear HB
        have HO169 := n0_
        have HO176 := n1_
        have HO185 := n2_
        have BK164 := n3_
        have BK172 := n4_
        have BK177 := n5_
        have BK180 := n6_
        have HB := n7_
        clear n0_ n1_ n2_ n3_ n4_ n5_ n6_ n7_
        (try clear hb)
        refine hK.out _ _ sqz (fun hHeld => ?_)
        clear hK K
        refine sqnm ?_
        refine pure_ (i := 4) (N := some 31) (v := ?_) (a' := ?_) #[true, true, true, true, true] rfl rfl (by kernel_rfl) (fun _ _ _ h => h) (Or.inl ⟨by rfl, ?_⟩) ?_ ?_
        rotate_left
        · intro w'
          go_simp
          with_reducible rfl
        rotate_left
        · simp only [Act.put, List.setIfInBounds_toArray, List.set_cons_zero, List.set_cons_succ, i64_w, i32_w]
          rfl
        refine done_ (by kernel_rfl) ?_
        try go_wp2
        go_ret
        exact sqe HB
      · replace c16 := Bool.eq_false_iff.mpr c16
        subst c16
        have H1 : (some false) = some r := by rw [if_neg (show ¬ (false = true) by decide)] at H; exact H
        clear H
        have H := H1
        clear H1
        obtain rfl := Option.some.inj H
        go_enter Try.func3, Try.ntmps3
        try go_wp2_with (first | ((with_reducible refine gate_dst (N := 2) rfl ?_); refine sqx 2 #[.int .i64 a0_0, .slice A0_1 l0_1.length c0_1] 24 ?_; intro gb164 hg w46 hbox hb; have BK164 := Aside0.mk (hbox); have GW164 := sqg HB hg; have GE164 := sqg HB hg; replace HB := sqs HB hb; clear hb hbox hg; obtain ⟨hcz47_0, hcz47_1, hfz47_0, hfz47_1⟩ := sqc2 BK164) | ((with_reducible refine gate_callee (f := 14) rfl ?_); refine sqL (some 11) Try.func14 #[.agg #[.int .i64 a0_0, .slice A0_1 l0_1.length c0_1], .int .i64 1048576] ?_; (with_reducible refine (laws_szGaps.calls a0_0 _ _ l0_1 1048576 t165 _ ?side1 ?side2 A3.out).mono ?_); (case side1 => repeat (first | exact (Kd.C_below HR0_1.out HB.out) | (with_reducible refine Kd.C_alloc ?_ _) | (with_reducible refine Kd.C_drewN ?_ _) | (with_reducible refine Kd.C_drew ?_))); (case side2 => exact HC0_1.out); rintro e w48 ⟨rfl, hb⟩; refine ⟨_, rfl, ?_⟩; replace BK164 := sqb BK164 hb; replace HB := sqs HB hb; (try clear hb); obtain ⟨hcz49_0, hcz49_1, hfz49_0, hfz49_1⟩ := sqc2 BK164) | ((with_reducible refine gate_callee (f := 16) rfl ?_); refine sqL (some 15) Try.func16 #[.agg #[.int .i64 a0_0, .slice A0_1 l0_1.length c0_1]] ?_; (with_reducible refine (laws_toGaps.calls k a0_0 _ _ l0_1 t166 t167 _ ?side1 ?side2 A8.out).mono ?_); (case side1 => repeat (first | exact (Kd.C_below HR0_1.out HB.out) | (with_reducible refine Kd.C_alloc ?_ _) | (with_reducible refine Kd.C_drewN ?_ _) | (with_reducible refine Kd.C_drew ?_))); (case side2 => exact HC0_1.out); rintro e w50 ⟨v168, rfl, ho0, hb⟩; refine ⟨_, rfl, ?_⟩; have HO169 := Aside0.mk (Kd.R_lower ho0 (below_size (by repeat (first | (with_reducible first | exact HB.out | apply below_alloc | apply pw_below_drewN | apply below_drew1 | refine below_set ?_ GE164.out) | exact HB.out)))); replace BK164 := sqb BK164 hb; replace HB := sqs HB hb; (try clear hb); (try clear hb2); (try clear hk); (try clear hi); (try clear ho0); obtain ⟨Ao51, co51, eo51⟩ := Kd.R_slice HO169.out; subst eo51) | ((with_reducible refine gate_callee (f := 15) rfl ?_); refine sqL (some 17) Try.func15 #[.agg #[.int .i64 t166, .slice Ao51 t167.length co51], .int .i64 a1] ?_; (with_reducible refine (spec_GapsRange.calls k t166 _ _ t167 a1 t170 t171 _ ?side1 ?side2 A9.out).mono ?_); (case side1 => repeat (first | exact (Kd.R_reads' HO169.out).2.2 | (with_reducible refine Kd.C_alloc ?_ _) | (with_reducible refine Kd.C_drewN ?_ _) | (with_reducible refine Kd.C_drew ?_))); (case side2 => exact (Kd.R_reads' HO169.out).2.1); rintro e w52 ⟨rfl, hb⟩; refine ⟨_, rfl, ?_⟩; have n0_ := Aside0.mk (Kd.R_below (by (with_reducible repeat (first | apply Kd.R_alloc | apply Kd.R_drewN | apply Kd.R_drew)); exact HO169.out) hb); have n1_ := sqb BK164 hb; have n2_ := sqs HB hb; clear HO169; clear BK164; clear HB; have HO169 := n0_; have BK164 := n1_; have HB := n2_; clear n0_ n1_ n2_; (try clear hb)) | ((with_reducible refine gate_dst (N := 6) rfl ?_); refine sqx 6 #[.int .i64 0, .int .i64 0] 27 ?_; intro gb172 hg w53 hbox hb; have n0_ := Aside0.mk (Kd.R_below (by (with_reducible repeat (first | apply Kd.R_alloc | apply Kd.R_drewN | apply Kd.R_drew)); exact HO169.out) hb); have n1_ := sqb BK164 hb; have n2_ := sqs HB hb; have n3_ := Aside0.mk (hbox); have n4_ := sqg HB hg; have n5_ := sqg HB hg; have n6_ := sqn BK164 hg; have n7_ := sqm BK164 hg; clear HO169; clear BK164; clear HB; have HO169 := n0_; have BK164 := n1_; have HB := n2_; have BK172 := n3_; have GW172 := n4_; have GE172 := n5_; have NB164_172 := n6_; have NB172_164 := n7_; clear n0_ n1_ n2_ n3_ n4_ n5_ n6_ n7_; clear hb hbox hg; have hnb54 := NB172_164.out; have hnc54 := NB164_172.out; obtain ⟨hcz55_0, hcz55_1, hfz55_0, hfz55_1⟩ := sqc2 BK172; obtain ⟨hcz56_0, hcz56_1, hfz56_0, hfz56_1⟩ := sqc2 BK164) | ((with_reducible refine gate_callee (f := 16) rfl ?_); refine sqL (some 19) Try.func16 #[.agg #[.int .i64 a0_0, .slice A0_1 l0_1.length c0_1]] ?_; (with_reducible refine (laws_toGaps.calls k a0_0 _ _ l0_1 t173 t174 _ ?side1 ?side2 A10.out).mono ?_); (case side1 => exact Kd.C_below HR0_1.out (by repeat (first | (with_reducible first | exact HB.out | apply below_alloc | apply pw_below_drewN | apply below_drew1 | refine below_set ?_ GE164.out | refine below_set ?_ GE172.out) | exact HB.out))); (case side2 => exact HC0_1.out); rintro e w57 ⟨v175, rfl, ho0, hb⟩; refine ⟨_, rfl, ?_⟩; have n0_ := Aside0.mk (Kd.R_elder' (by (with_reducible repeat (first | apply Kd.R_alloc | apply Kd.R_drewN | apply Kd.R_drew)); exact (Kd.R_mono (Kd.R_far (p := ⟨gb172, 1, none⟩) (Kd.R_far (p := ⟨gb172, 0, none⟩) (Kd.R_types HO169.out BK172.out (by decide)) (fun _ hk => hk.2) (.int .i64 t170)) (fun _ hk => hk.2) (.int .i64 t171)) (fun _ h_ => h_.1))) (Kd.R_base ho0) hb); have n1_ := Aside0.mk (Kd.R_lower (Kd.R_new' ho0 (Kd.R_lt (by (with_reducible repeat (first | apply Kd.R_alloc | apply Kd.R_drewN | apply Kd.R_drew)); exact (Kd.R_mono (Kd.R_far (p := ⟨gb172, 1, none⟩) (Kd.R_far (p := ⟨gb172, 0, none⟩) (Kd.R_types HO169.out BK172.out (by decide)) (fun _ hk => hk.2) (.int .i64 t170)) (fun _ hk => hk.2) (.int .i64 t171)) (fun _ h_ => h_.1))))) (below_size (by repeat (first | (with_reducible first | exact HB.out | apply below_alloc | apply pw_below_drewN | apply below_drew1 | refine below_set ?_ GE164.out | refine below_set ?_ GE172.out) | exact HB.out)))); have n2_ := Aside0.mk (blk_below (g := gb164) (o := .cells #[.int .i64 a0_0, .slice A0_1 l0_1.length c0_1] 24 (0, 0)) (by refine sqt ?_; refine blk_far ?_ NB164_172.out _; refine sqt ?_; refine blk_far ?_ NB164_172.out _; refine sqt ?_; exact BK164.out) hb); have n3_ := Aside0.mk (blk_below (g := gb172) (o := .cells #[.int .i64 t170, .int .i64 t171] 27 (0, 0)) (by refine sqt ?_; refine blk_put (cs := #[.int .i64 t170, .int .i64 0]) ?_ 1 _ rfl; refine sqt ?_; refine blk_put (cs := #[.int .i64 0, .int .i64 0]) ?_ 0 _ rfl; refine sqt ?_; exact BK172.out) hb); have n4_ := sqs HB hb; clear HO169; clear BK164; clear BK172; clear HB; have HO169 := n0_; have HO176 := n1_; have BK164 := n2_; have BK172 := n3_; have HB := n4_; clear n0_ n1_ n2_ n3_ n4_; (try clear hb); (try clear hb2); (try clear hk); (try clear hi); (try clear ho0)) | ((with_reducible refine gate_dst (N := 7) rfl ?_); refine sqx 7 #[.int .i64 0, .slice none 0 0] 29 ?_; intro gb177 hg w58 hbox hb; have n0_ := Aside0.mk (Kd.R_below (by (with_reducible repeat (first | apply Kd.R_alloc | apply Kd.R_drewN | apply Kd.R_drew)); exact HO169.out) hb); have n1_ := Aside0.mk (Kd.R_below (by (with_reducible repeat (first | apply Kd.R_alloc | apply Kd.R_drewN | apply Kd.R_drew)); exact HO176.out) hb); have n2_ := sqb BK164 hb; have n3_ := sqb BK172 hb; have n4_ := sqs HB hb; have n5_ := Aside0.mk (hbox); have n6_ := sqg HB hg; have n7_ := sqg HB hg; have n8_ := sqn BK164 hg; have n9_ := sqm BK164 hg; have n10_ := sqn BK172 hg; have n11_ := sqm BK172 hg; clear HO169; clear HO176; clear BK164; clear BK172; clear HB; have HO169 := n0_; have HO176 := n1_; have BK164 := n2_; have BK172 := n3_; have HB := n4_; have BK177 := n5_; have GW177 := n6_; have GE177 := n7_; have NB164_177 := n8_; have NB177_164 := n9_; have NB172_177 := n10_; have NB177_172 := n11_; clear n0_ n1_ n2_ n3_ n4_ n5_ n6_ n7_ n8_ n9_ n10_ n11_; clear hb hbox hg; have hnb59 := NB177_164.out; have hnc59 := NB164_177.out; have hnb60 := NB177_172.out; have hnc60 := NB172_177.out; obtain ⟨hcz61_0, hcz61_1, hfz61_0, hfz61_1⟩ := sqc2 BK177; obtain ⟨Ao62, co62, eo62⟩ := Kd.R_slice HO176.out; subst eo62) | ((with_reducible refine gate_callee (f := 17) rfl ?_); refine sqL (some 22) Try.func17 #[.agg #[.int .i64 t173, .slice Ao62 t174.length co62], .int .i64 a1] ?_; (with_reducible refine (impl_GapsRange.calls k t173 _ _ t174 a1 t178 t179 _ ?side1 ?side2 A11.out).mono ?_); (case side1 => refine (Kd.R_reads' (e := 3) (base := w.heap.size) (ok := fun k_ => (True ∧ some k_ ≠ (.slice Ao51 t167.length co51 : Value).ownBlock)) (n := t174.length) (c := co62) ?_).2.2; exact (by (with_reducible repeat (first | apply Kd.R_alloc | apply Kd.R_drewN | apply Kd.R_drew)); exact (Kd.R_mono (Kd.R_far (p := ⟨gb177, 1, none⟩) (Kd.R_far (p := ⟨gb177, 0, none⟩) (Kd.R_types HO176.out BK177.out (by decide)) (fun _ hk => hk.2) (.int .i64 t173)) (fun _ hk => hk.2) (.slice Ao62 t174.length co62)) (fun _ h_ => h_.1)))); (case side2 => exact (Kd.R_reads' HO176.out).2.1); rintro e w63 ⟨rfl, hb⟩; refine ⟨_, rfl, ?_⟩; have n0_ := Aside0.mk (Kd.R_below (by (with_reducible repeat (first | apply Kd.R_alloc | apply Kd.R_drewN | apply Kd.R_drew)); exact (Kd.R_mono (Kd.R_far (p := ⟨gb177, 1, none⟩) (Kd.R_far (p := ⟨gb177, 0, none⟩) (Kd.R_types HO169.out BK177.out (by decide)) (fun _ hk => hk.2) (.int .i64 t173)) (fun _ hk => hk.2) (.slice Ao62 t174.length co62)) (fun _ h_ => h_.1))) hb); have n1_ := Aside0.mk (Kd.R_below (by (with_reducible repeat (first | apply Kd.R_alloc | apply Kd.R_drewN | apply Kd.R_drew)); exact (Kd.R_mono (Kd.R_far (p := ⟨gb177, 1, none⟩) (Kd.R_far (p := ⟨gb177, 0, none⟩) (Kd.R_types HO176.out BK177.out (by decide)) (fun _ hk => hk.2) (.int .i64 t173)) (fun _ hk => hk.2) (.slice Ao62 t174.length co62)) (fun _ h_ => h_.1))) hb); have n2_ := Aside0.mk (blk_below (g := gb164) (o := .cells #[.int .i64 a0_0, .slice A0_1 l0_1.length c0_1] 24 (0, 0)) (by refine sqt ?_; refine blk_far ?_ NB164_177.out _; refine sqt ?_; refine blk_far ?_ NB164_177.out _; refine sqt ?_; exact BK164.out) hb); have n3_ := Aside0.mk (blk_below (g := gb172) (o := .cells #[.int .i64 t170, .int .i64 t171] 27 (0, 0)) (by refine sqt ?_; refine blk_far ?_ NB172_177.out _; refine sqt ?_; refine blk_far ?_ NB172_177.out _; refine sqt ?_; exact BK172.out) hb); have n4_ := Aside0.mk (blk_below (g := gb177) (o := .cells #[.int .i64 t173, .slice Ao62 t174.length co62] 29 (0, 0)) (by refine sqt ?_; refine blk_put (cs := #[.int .i64 t173, .slice none 0 0]) ?_ 1 _ rfl; refine sqt ?_; refine blk_put (cs := #[.int .i64 0, .slice none 0 0]) ?_ 0 _ rfl; refine sqt ?_; exact BK177.out) hb); have n5_ := sqs HB hb; clear HO169; clear HO176; clear BK164; clear BK172; clear BK177; clear HB; have HO169 := n0_; have HO176 := n1_; have BK164 := n2_; have BK172 := n3_; have BK177 := n4_; have HB := n5_; clear n0_ n1_ n2_ n3_ n4_ n5_; (try clear hb); (try clear hb2); (try clear hk); (try clear hi)) | ((with_reducible refine gate_dst (N := 8) rfl ?_); refine sqx 8 #[.int .i64 0, .int .i64 0] 27 ?_; intro gb180 hg w64 hbox hb; have n0_ := Aside0.mk (Kd.R_below (by (with_reducible repeat (first | apply Kd.R_alloc | apply Kd.R_drewN | apply Kd.R_drew)); exact HO169.out) hb); have n1_ := Aside0.mk (Kd.R_below (by (with_reducible repeat (first | apply Kd.R_alloc | apply Kd.R_drewN | apply Kd.R_drew)); exact HO176.out) hb); have n2_ := sqb BK164 hb; have n3_ := sqb BK172 hb; have n4_ := sqb BK177 hb; have n5_ := sqs HB hb; have n6_ := Aside0.mk (hbox); have n7_ := sqg HB hg; have n8_ := sqg HB hg; have n9_ := sqn BK164 hg; have n10_ := sqm BK164 hg; have n11_ := sqn BK172 hg; have n12_ := sqm BK172 hg; have n13_ := sqn BK177 hg; have n14_ := sqm BK177 hg; clear HO169; clear HO176; clear BK164; clear BK172; clear BK177; clear HB; have HO169 := n0_; have HO176 := n1_; have BK164 := n2_; have BK172 := n3_; have BK177 := n4_; have HB := n5_; have BK180 := n6_; have GW180 := n7_; have GE180 := n8_; have NB164_180 := n9_; have NB180_164 := n10_; have NB172_180 := n11_; have NB180_172 := n12_; have NB177_180 := n13_; have NB180_177 := n14_; clear n0_ n1_ n2_ n3_ n4_ n5_ n6_ n7_ n8_ n9_ n10_ n11_ n12_ n13_ n14_; clear hb hbox hg; have hnb65 := NB180_164.out; have hnc65 := NB164_180.out; have hnb66 := NB180_172.out; have hnc66 := NB172_180.out; have hnb67 := NB180_177.out; have hnc67 := NB177_180.out; obtain ⟨hcz68_0, hcz68_1, hfz68_0, hfz68_1⟩ := sqc2 BK180; obtain ⟨hcz69_0, hcz69_1, hfz69_0, hfz69_1⟩ := sqc2 BK172) | ((with_reducible refine gate_callee (f := 18) rfl ?_); refine sqL (some 25) Try.func18 #[.agg #[.int .i64 t178, .int .i64 t179], .agg #[.int .i64 t170, .int .i64 t171]] ?_; (with_reducible refine (laws_eqRange.calls t178 t179 t170 t171 true _ A12.out).mono ?_); rintro e w70 ⟨rfl, hb⟩; refine ⟨_, rfl, ?_⟩; have n0_ := Aside0.mk (Kd.R_below (by (with_reducible repeat (first | apply Kd.R_alloc | apply Kd.R_drewN | apply Kd.R_drew)); exact (Kd.R_mono (Kd.R_far (p := ⟨gb180, 1, none⟩) (Kd.R_far (p := ⟨gb180, 0, none⟩) (Kd.R_types HO169.out BK180.out (by decide)) (fun _ hk => hk.2) (.int .i64 t178)) (fun _ hk => hk.2) (.int .i64 t179)) (fun _ h_ => h_.1))) hb); have n1_ := Aside0.mk (Kd.R_below (by (with_reducible repeat (first | apply Kd.R_alloc | apply Kd.R_drewN | apply Kd.R_drew)); exact (Kd.R_mono (Kd.R_far (p := ⟨gb180, 1, none⟩) (Kd.R_far (p := ⟨gb180, 0, none⟩) (Kd.R_types HO176.out BK180.out (by decide)) (fun _ hk => hk.2) (.int .i64 t178)) (fun _ hk => hk.2) (.int .i64 t179)) (fun _ h_ => h_.1))) hb); have n2_ := Aside0.mk (blk_below (g := gb164) (o := .cells #[.int .i64 a0_0, .slice A0_1 l0_1.length c0_1] 24 (0, 0)) (by refine sqt ?_; refine blk_far ?_ NB164_180.out _; refine sqt ?_; refine blk_far ?_ NB164_180.out _; refine sqt ?_; exact BK164.out) hb); have n3_ := Aside0.mk (blk_below (g := gb172) (o := .cells #[.int .i64 t170, .int .i64 t171] 27 (0, 0)) (by refine sqt ?_; refine blk_far ?_ NB172_180.out _; refine sqt ?_; refine blk_far ?_ NB172_180.out _; refine sqt ?_; exact BK172.out) hb); have n4_ := Aside0.mk (blk_below (g := gb177) (o := .cells #[.int .i64 t173, .slice Ao62 t174.length co62] 29 (0, 0)) (by refine sqt ?_; refine blk_far ?_ NB177_180.out _; refine sqt ?_; refine blk_far ?_ NB177_180.out _; refine sqt ?_; exact BK177.out) hb); have n5_ := Aside0.mk (blk_below (g := gb180) (o := .cells #[.int .i64 t178, .int .i64 t179] 27 (0, 0)) (by refine sqt ?_; refine blk_put (cs := #[.int .i64 t178, .int .i64 0]) ?_ 1 _ rfl; refine sqt ?_; refine blk_put (cs := #[.int .i64 0, .int .i64 0]) ?_ 0 _ rfl; refine sqt ?_; exact BK180.out) hb); have n6_ := sqs HB hb; clear HO169; clear HO176; clear BK164; clear BK172; clear BK177; clear BK180; clear HB; have HO169 := n0_; have HO176 := n1_; have BK164 := n2_; have BK172 := n3_; have BK177 := n4_; have BK180 := n5_; have HB := n6_; clear n0_ n1_ n2_ n3_ n4_ n5_ n6_; (try clear hb); (try clear hb2); (try clear hk); (try clear hi)))
        replace HO169 := Aside0.mk (Kd.R_drew HO169.out)
        replace HO176 := Aside0.mk (Kd.R_drew HO176.out)
        replace BK164 := Aside0.mk (blk_drew BK164.out)
        replace BK172 := Aside0.mk (blk_drew BK172.out)
        replace BK177 := Aside0.mk (blk_drew BK177.out)
        replace BK180 := Aside0.mk (blk_drew BK180.out)
        replace HB := Aside0.mk (below_drew1 HB.out)
        refine start_ (n := 5) (S := fun w' => w'.cell? ⟨gb177, 0, none⟩ = some (.int .i64 t173) ∧ w'.cell? ⟨gb177, 1, none⟩ = some (.slice Ao62 t174.length co62) ∧ w'.cell? ⟨gb164, 0, none⟩ = some (.int .i64 a0_0) ∧ w'.cell? ⟨gb164, 1, none⟩ = some (.slice A0_1 l0_1.length c0_1)) (ds := []) #[false, false, false, false, false] (by kernel_rfl) rfl rfl ⟨(blk_cell BK177.out 0).trans rfl, (blk_cell BK177.out 1).trans rfl, (blk_cell BK164.out 0).trans rfl, (blk_cell BK164.out 1).trans rfl⟩ (fun hHeld => ?_)
        generalize w70.drew = w71 at HO169 HO176 BK164 BK172 BK177 BK180 HB hHeld ⊢
        refine take_ (i := 0) (N := some 27) (v := ?_) (a' := ?_) #[true, false, false, false, false] rfl rfl (by kernel_rfl) (fun _ _ _ h => h) (Or.inl ⟨by rfl, ?_⟩) hHeld ?_ ?_
        rotate_left
        · rintro w' ⟨s0, s1, s2, s3⟩
          go_simp
          with_reducible rfl
        rotate_left
        · simp only [Act.put, List.setIfInBounds_toArray, List.set_cons_zero, List.set_cons_succ, i64_w, i32_w]
          rfl
        refine take_ (i := 1) (N := some 28) (v := ?_) (a' := ?_) #[true, true, false, false, false] rfl rfl (by kernel_rfl) (fun _ _ _ h => h) (Or.inl ⟨by rfl, ?_⟩) hHeld ?_ ?_
        rotate_left
        · rintro w' ⟨s0, s1, s2, s3⟩
          go_simp
          with_reducible rfl
        rotate_left
        · simp only [Act.put, List.setIfInBounds_toArray, List.set_cons_zero, List.set_cons_succ, i64_w, i32_w]
          rfl
        refine one_ (i := 2) (N := some 29) #[true, true, true, false, false] rfl rfl (by kernel_rfl) (by decide) (fun K hK => ?_)
        refine sqG Try.func16 #[.agg #[.int .i64 a0_0, .slice A0_1 l0_1.length c0_1]] ?_
        with_reducible refine (laws_toGaps.calls k a0_0 _ _ l0_1 t182 t183 _ ?side1 ?side2 A14.out).mono ?_
        (case side1 => repeat (first | exact (Kd.C_below HR0_1.out HB.out) | (with_reducible refine Kd.C_alloc ?_ _) | (with_reducible refine Kd.C_drewN ?_ _) | (with_reducible refine Kd.C_drew ?_)))
        (case side2 => exact HC0_1.out)
        rintro e w72 ⟨v184, rfl, ho0, hb⟩
        refine ⟨_, rfl, ?_⟩
        have n0_ := Aside0.mk (Kd.R_elder' (by (with_reducible repeat (first | apply Kd.R_alloc | apply Kd.R_drewN | apply Kd.R_drew)); exact HO169.out) (Kd.R_base ho0) hb)
        have n1_ := Aside0.mk (Kd.R_elder' (by (with_reducible repeat (first | apply Kd.R_alloc | apply Kd.R_drewN | apply Kd.R_drew)); exact HO176.out) (Kd.R_base ho0) hb)
        have n2_ := Aside0.mk (Kd.R_lower (Kd.R_new' (Kd.R_new' ho0 (Kd.R_lt (by (with_reducible repeat (first | apply Kd.R_alloc | apply Kd.R_drewN | apply Kd.R_drew)); exact HO169.out))) (Kd.R_lt (by (with_reducible repeat (first | apply Kd.R_alloc | apply Kd.R_drewN | apply Kd.R_drew)); exact HO176.out))) (below_size (by repeat (first | (with_reducible first | exact HB.out | apply below_alloc | apply pw_below_drewN | apply below_drew1 | refine below_set ?_ GE164.out | refine below_set ?_ GE172.out | refine below_set ?_ GE177.out | refine below_set ?_ GE180.out) | exact HB.out))))
        have n3_ := sqb BK164 hb
        have n4_ := sqb BK172 hb
        have n5_ := sqb BK177 hb
        have n6_ := sqb BK180 hb
        have n7_ := sqs HB hb
        clear HO169
        clear HO176
        clear BK164
        clear BK172
        clear BK177
        clear BK180
        clear HB
        have HO169 := n0_
        have HO176 := n1_
        have HO185 := n2_
        have BK164 := n3_
        have BK172 := n4_
        have BK177 := n5_
        have BK180 := n6_
        have HB := n7_
        clear n0_ n1_ n2_ n3_ n4_ n5_ n6_ n7_
        (try clear hb)
        (try clear hb2)
        (try clear hk)
        (try clear hi)
        (try clear ho0)
        obtain ⟨Ao73, co73, eo73⟩ := Kd.R_slice HO185.out
        (first | subst eo73 | (injection eo73 with f1_ f2_ f3_; have f4_ := f1_.symm; have f5_ := f3_.symm; clear f1_ f2_ f3_; subst f4_; subst f5_))
        refine hK.out _ _ sqz (fun hHeld => ?_)
        clear hK K
        refine sqnm ?_
        refine one_ (i := 3) (N := some 30) #[true, true, true, true, false] rfl rfl (by kernel_rfl) (by decide) (fun K hK => ?_)
        refine sqG Try.func19 #[.agg #[.int .i64 t173, .slice Ao62 t174.length co62], .agg #[.int .i64 t182, .slice Ao73 t183.length co73]] ?_
        with_reducible refine (laws_eqGaps.calls k t173 _ _ t174 t182 _ _ t183 false _ ?side1 ?side2 ?side3 ?side4 A15.out).mono ?_
        (case side1 => repeat (first | exact (Kd.R_reads' HO176.out).2.2 | (with_reducible refine Kd.C_alloc ?_ _) | (with_reducible refine Kd.C_drewN ?_ _) | (with_reducible refine Kd.C_drew ?_)))
        (case side2 => exact (Kd.R_reads' HO176.out).2.1)
        (case side3 => repeat (first | exact (Kd.R_reads' HO185.out).2.2 | (with_reducible refine Kd.C_alloc ?_ _) | (with_reducible refine Kd.C_drewN ?_ _) | (with_reducible refine Kd.C_drew ?_)))
        (case side4 => exact (Kd.R_reads' HO185.out).2.1)
        rintro e w74 ⟨rfl, hb⟩
        refine ⟨_, rfl, ?_⟩
        have n0_ := Aside0.mk (Kd.R_below (by (with_reducible repeat (first | apply Kd.R_alloc | apply Kd.R_drewN | apply Kd.R_drew)); exact HO169.out) hb)
        have n1_ := Aside0.mk (Kd.R_below (by (with_reducible repeat (first | apply Kd.R_alloc | apply Kd.R_drewN | apply Kd.R_drew)); exact HO176.out) hb)
        have n2_ := Aside0.mk (Kd.R_below (by (with_reducible repeat (first | apply Kd.R_alloc | apply Kd.R_drewN | apply Kd.R_drew)); exact HO185.out) hb)
        have n3_ := sqb BK164 hb
        have n4_ := sqb BK172 hb
        have n5_ := sqb BK177 hb
        have n6_ := sqb BK180 hb
        have n7_ := sqs HB hb
        clear HO169
        clear HO176
        clear HO185
        clear BK164
        clear BK172
        clear BK177
        clear BK180
        clear HB
        have HO169 := n0_
        have HO176 := n1_
        have HO185 := n2_
        have BK164 := n3_
        have BK172 := n4_
        have BK177 := n5_
        have BK180 := n6_
        have HB := n7_
        clear n0_ n1_ n2_ n3_ n4_ n5_ n6_ n7_
        (try clear hb)
        refine hK.out _ _ sqz (fun hHeld => ?_)
        clear hK K
        refine sqnm ?_
        refine pure_ (i := 4) (N := some 31) (v := ?_) (a' := ?_) #[true, true, true, true, true] rfl rfl (by kernel_rfl) (fun _ _ _ h => h) (Or.inl ⟨by rfl, ?_⟩) ?_ ?_
        rotate_left
        · intro w'
          go_simp
          with_reducible rfl
        rotate_left
        · simp only [Act.put, List.setIfInBounds_toArray, List.set_cons_zero, List.set_cons_succ, i64_w, i32_w]
          rfl
        refine done_ (by kernel_rfl) ?_
        try go_wp2
        go_ret
        exact sqe HB
    · replace c13 := Bool.eq_false_iff.mpr c13
      subst c13
      have H1 : (some false) = some r := by rw [if_neg (show ¬ (false = true) by decide)] at H; exact H
      clear H
      have H := H1
      clear H1
      obtain rfl := Option.some.inj H
      go_enter Try.func3, Try.ntmps3
      go_wp2_with (first | ((with_reducible refine gate_dst (N := 2) rfl ?_); refine sqx 2 #[.int .i64 a0_0, .slice A0_1 l0_1.length c0_1] 24 ?_; intro gb164 hg w75 hbox hb; have BK164 := Aside0.mk (hbox); have GW164 := sqg HB hg; have GE164 := sqg HB hg; replace HB := sqs HB hb; clear hb hbox hg; obtain ⟨hcz76_0, hcz76_1, hfz76_0, hfz76_1⟩ := sqc2 BK164) | ((with_reducible refine gate_callee (f := 14) rfl ?_); refine sqL (some 11) Try.func14 #[.agg #[.int .i64 a0_0, .slice A0_1 l0_1.length c0_1], .int .i64 1048576] ?_; (with_reducible refine (laws_szGaps.calls a0_0 _ _ l0_1 1048576 t165 _ ?side1 ?side2 A3.out).mono ?_); (case side1 => repeat (first | exact (Kd.C_below HR0_1.out HB.out) | (with_reducible refine Kd.C_alloc ?_ _) | (with_reducible refine Kd.C_drewN ?_ _) | (with_reducible refine Kd.C_drew ?_))); (case side2 => exact HC0_1.out); rintro e w77 ⟨rfl, hb⟩; refine ⟨_, rfl, ?_⟩; replace BK164 := sqb BK164 hb; replace HB := sqs HB hb; (try clear hb); obtain ⟨hcz78_0, hcz78_1, hfz78_0, hfz78_1⟩ := sqc2 BK164) | ((with_reducible refine gate_callee (f := 16) rfl ?_); refine sqL (some 15) Try.func16 #[.agg #[.int .i64 a0_0, .slice A0_1 l0_1.length c0_1]] ?_; (with_reducible refine (laws_toGaps.calls k a0_0 _ _ l0_1 t166 t167 _ ?side1 ?side2 A8.out).mono ?_); (case side1 => repeat (first | exact (Kd.C_below HR0_1.out HB.out) | (with_reducible refine Kd.C_alloc ?_ _) | (with_reducible refine Kd.C_drewN ?_ _) | (with_reducible refine Kd.C_drew ?_))); (case side2 => exact HC0_1.out); rintro e w79 ⟨v168, rfl, ho0, hb⟩; refine ⟨_, rfl, ?_⟩; have HO169 := Aside0.mk (Kd.R_lower ho0 (below_size (by repeat (first | (with_reducible first | exact HB.out | apply below_alloc | apply pw_below_drewN | apply below_drew1 | refine below_set ?_ GE164.out) | exact HB.out)))); replace BK164 := sqb BK164 hb; replace HB := sqs HB hb; (try clear hb); (try clear hb2); (try clear hk); (try clear hi); (try clear ho0); obtain ⟨Ao80, co80, eo80⟩ := Kd.R_slice HO169.out; subst eo80) | ((with_reducible refine gate_callee (f := 15) rfl ?_); refine sqL (some 17) Try.func15 #[.agg #[.int .i64 t166, .slice Ao80 t167.length co80], .int .i64 a1] ?_; (with_reducible refine (spec_GapsRange.calls k t166 _ _ t167 a1 t170 t171 _ ?side1 ?side2 A9.out).mono ?_); (case side1 => repeat (first | exact (Kd.R_reads' HO169.out).2.2 | (with_reducible refine Kd.C_alloc ?_ _) | (with_reducible refine Kd.C_drewN ?_ _) | (with_reducible refine Kd.C_drew ?_))); (case side2 => exact (Kd.R_reads' HO169.out).2.1); rintro e w81 ⟨rfl, hb⟩; refine ⟨_, rfl, ?_⟩; have n0_ := Aside0.mk (Kd.R_below (by (with_reducible repeat (first | apply Kd.R_alloc | apply Kd.R_drewN | apply Kd.R_drew)); exact HO169.out) hb); have n1_ := sqb BK164 hb; have n2_ := sqs HB hb; clear HO169; clear BK164; clear HB; have HO169 := n0_; have BK164 := n1_; have HB := n2_; clear n0_ n1_ n2_; (try clear hb)) | ((with_reducible refine gate_dst (N := 6) rfl ?_); refine sqx 6 #[.int .i64 0, .int .i64 0] 27 ?_; intro gb172 hg w82 hbox hb; have n0_ := Aside0.mk (Kd.R_below (by (with_reducible repeat (first | apply Kd.R_alloc | apply Kd.R_drewN | apply Kd.R_drew)); exact HO169.out) hb); have n1_ := sqb BK164 hb; have n2_ := sqs HB hb; have n3_ := Aside0.mk (hbox); have n4_ := sqg HB hg; have n5_ := sqg HB hg; have n6_ := sqn BK164 hg; have n7_ := sqm BK164 hg; clear HO169; clear BK164; clear HB; have HO169 := n0_; have BK164 := n1_; have HB := n2_; have BK172 := n3_; have GW172 := n4_; have GE172 := n5_; have NB164_172 := n6_; have NB172_164 := n7_; clear n0_ n1_ n2_ n3_ n4_ n5_ n6_ n7_; clear hb hbox hg; have hnb83 := NB172_164.out; have hnc83 := NB164_172.out; obtain ⟨hcz84_0, hcz84_1, hfz84_0, hfz84_1⟩ := sqc2 BK172; obtain ⟨hcz85_0, hcz85_1, hfz85_0, hfz85_1⟩ := sqc2 BK164) | ((with_reducible refine gate_callee (f := 16) rfl ?_); refine sqL (some 19) Try.func16 #[.agg #[.int .i64 a0_0, .slice A0_1 l0_1.length c0_1]] ?_; (with_reducible refine (laws_toGaps.calls k a0_0 _ _ l0_1 t173 t174 _ ?side1 ?side2 A10.out).mono ?_); (case side1 => exact Kd.C_below HR0_1.out (by repeat (first | (with_reducible first | exact HB.out | apply below_alloc | apply pw_below_drewN | apply below_drew1 | refine below_set ?_ GE164.out | refine below_set ?_ GE172.out) | exact HB.out))); (case side2 => exact HC0_1.out); rintro e w86 ⟨v175, rfl, ho0, hb⟩; refine ⟨_, rfl, ?_⟩; have n0_ := Aside0.mk (Kd.R_elder' (by (with_reducible repeat (first | apply Kd.R_alloc | apply Kd.R_drewN | apply Kd.R_drew)); exact (Kd.R_mono (Kd.R_far (p := ⟨gb172, 1, none⟩) (Kd.R_far (p := ⟨gb172, 0, none⟩) (Kd.R_types HO169.out BK172.out (by decide)) (fun _ hk => hk.2) (.int .i64 t170)) (fun _ hk => hk.2) (.int .i64 t171)) (fun _ h_ => h_.1))) (Kd.R_base ho0) hb); have n1_ := Aside0.mk (Kd.R_lower (Kd.R_new' ho0 (Kd.R_lt (by (with_reducible repeat (first | apply Kd.R_alloc | apply Kd.R_drewN | apply Kd.R_drew)); exact (Kd.R_mono (Kd.R_far (p := ⟨gb172, 1, none⟩) (Kd.R_far (p := ⟨gb172, 0, none⟩) (Kd.R_types HO169.out BK172.out (by decide)) (fun _ hk => hk.2) (.int .i64 t170)) (fun _ hk => hk.2) (.int .i64 t171)) (fun _ h_ => h_.1))))) (below_size (by repeat (first | (with_reducible first | exact HB.out | apply below_alloc | apply pw_below_drewN | apply below_drew1 | refine below_set ?_ GE164.out | refine below_set ?_ GE172.out) | exact HB.out)))); have n2_ := Aside0.mk (blk_below (g := gb164) (o := .cells #[.int .i64 a0_0, .slice A0_1 l0_1.length c0_1] 24 (0, 0)) (by refine sqt ?_; refine blk_far ?_ NB164_172.out _; refine sqt ?_; refine blk_far ?_ NB164_172.out _; refine sqt ?_; exact BK164.out) hb); have n3_ := Aside0.mk (blk_below (g := gb172) (o := .cells #[.int .i64 t170, .int .i64 t171] 27 (0, 0)) (by refine sqt ?_; refine blk_put (cs := #[.int .i64 t170, .int .i64 0]) ?_ 1 _ rfl; refine sqt ?_; refine blk_put (cs := #[.int .i64 0, .int .i64 0]) ?_ 0 _ rfl; refine sqt ?_; exact BK172.out) hb); have n4_ := sqs HB hb; clear HO169; clear BK164; clear BK172; clear HB; have HO169 := n0_; have HO176 := n1_; have BK164 := n2_; have BK172 := n3_; have HB := n4_; clear n0_ n1_ n2_ n3_ n4_; (try clear hb); (try clear hb2); (try clear hk); (try clear hi); (try clear ho0)) | ((with_reducible refine gate_dst (N := 7) rfl ?_); refine sqx 7 #[.int .i64 0, .slice none 0 0] 29 ?_; intro gb177 hg w87 hbox hb; have n0_ := Aside0.mk (Kd.R_below (by (with_reducible repeat (first | apply Kd.R_alloc | apply Kd.R_drewN | apply Kd.R_drew)); exact HO169.out) hb); have n1_ := Aside0.mk (Kd.R_below (by (with_reducible repeat (first | apply Kd.R_alloc | apply Kd.R_drewN | apply Kd.R_drew)); exact HO176.out) hb); have n2_ := sqb BK164 hb; have n3_ := sqb BK172 hb; have n4_ := sqs HB hb; have n5_ := Aside0.mk (hbox); have n6_ := sqg HB hg; have n7_ := sqg HB hg; have n8_ := sqn BK164 hg; have n9_ := sqm BK164 hg; have n10_ := sqn BK172 hg; have n11_ := sqm BK172 hg; clear HO169; clear HO176; clear BK164; clear BK172; clear HB; have HO169 := n0_; have HO176 := n1_; have BK164 := n2_; have BK172 := n3_; have HB := n4_; have BK177 := n5_; have GW177 := n6_; have GE177 := n7_; have NB164_177 := n8_; have NB177_164 := n9_; have NB172_177 := n10_; have NB177_172 := n11_; clear n0_ n1_ n2_ n3_ n4_ n5_ n6_ n7_ n8_ n9_ n10_ n11_; clear hb hbox hg; have hnb88 := NB177_164.out; have hnc88 := NB164_177.out; have hnb89 := NB177_172.out; have hnc89 := NB172_177.out; obtain ⟨hcz90_0, hcz90_1, hfz90_0, hfz90_1⟩ := sqc2 BK177; obtain ⟨Ao91, co91, eo91⟩ := Kd.R_slice HO176.out; subst eo91) | ((with_reducible refine gate_callee (f := 17) rfl ?_); refine sqL (some 22) Try.func17 #[.agg #[.int .i64 t173, .slice Ao91 t174.length co91], .int .i64 a1] ?_; (with_reducible refine (impl_GapsRange.calls k t173 _ _ t174 a1 t178 t179 _ ?side1 ?side2 A11.out).mono ?_); (case side1 => refine (Kd.R_reads' (e := 3) (base := w.heap.size) (ok := fun k_ => (True ∧ some k_ ≠ (.slice Ao80 t167.length co80 : Value).ownBlock)) (n := t174.length) (c := co91) ?_).2.2; exact (by (with_reducible repeat (first | apply Kd.R_alloc | apply Kd.R_drewN | apply Kd.R_drew)); exact (Kd.R_mono (Kd.R_far (p := ⟨gb177, 1, none⟩) (Kd.R_far (p := ⟨gb177, 0, none⟩) (Kd.R_types HO176.out BK177.out (by decide)) (fun _ hk => hk.2) (.int .i64 t173)) (fun _ hk => hk.2) (.slice Ao91 t174.length co91)) (fun _ h_ => h_.1)))); (case side2 => exact (Kd.R_reads' HO176.out).2.1); rintro e w92 ⟨rfl, hb⟩; refine ⟨_, rfl, ?_⟩; have n0_ := Aside0.mk (Kd.R_below (by (with_reducible repeat (first | apply Kd.R_alloc | apply Kd.R_drewN | apply Kd.R_drew)); exact (Kd.R_mono (Kd.R_far (p := ⟨gb177, 1, none⟩) (Kd.R_far (p := ⟨gb177, 0, none⟩) (Kd.R_types HO169.out BK177.out (by decide)) (fun _ hk => hk.2) (.int .i64 t173)) (fun _ hk => hk.2) (.slice Ao91 t174.length co91)) (fun _ h_ => h_.1))) hb); have n1_ := Aside0.mk (Kd.R_below (by (with_reducible repeat (first | apply Kd.R_alloc | apply Kd.R_drewN | apply Kd.R_drew)); exact (Kd.R_mono (Kd.R_far (p := ⟨gb177, 1, none⟩) (Kd.R_far (p := ⟨gb177, 0, none⟩) (Kd.R_types HO176.out BK177.out (by decide)) (fun _ hk => hk.2) (.int .i64 t173)) (fun _ hk => hk.2) (.slice Ao91 t174.length co91)) (fun _ h_ => h_.1))) hb); have n2_ := Aside0.mk (blk_below (g := gb164) (o := .cells #[.int .i64 a0_0, .slice A0_1 l0_1.length c0_1] 24 (0, 0)) (by refine sqt ?_; refine blk_far ?_ NB164_177.out _; refine sqt ?_; refine blk_far ?_ NB164_177.out _; refine sqt ?_; exact BK164.out) hb); have n3_ := Aside0.mk (blk_below (g := gb172) (o := .cells #[.int .i64 t170, .int .i64 t171] 27 (0, 0)) (by refine sqt ?_; refine blk_far ?_ NB172_177.out _; refine sqt ?_; refine blk_far ?_ NB172_177.out _; refine sqt ?_; exact BK172.out) hb); have n4_ := Aside0.mk (blk_below (g := gb177) (o := .cells #[.int .i64 t173, .slice Ao91 t174.length co91] 29 (0, 0)) (by refine sqt ?_; refine blk_put (cs := #[.int .i64 t173, .slice none 0 0]) ?_ 1 _ rfl; refine sqt ?_; refine blk_put (cs := #[.int .i64 0, .slice none 0 0]) ?_ 0 _ rfl; refine sqt ?_; exact BK177.out) hb); have n5_ := sqs HB hb; clear HO169; clear HO176; clear BK164; clear BK172; clear BK177; clear HB; have HO169 := n0_; have HO176 := n1_; have BK164 := n2_; have BK172 := n3_; have BK177 := n4_; have HB := n5_; clear n0_ n1_ n2_ n3_ n4_ n5_; (try clear hb); (try clear hb2); (try clear hk); (try clear hi)) | ((with_reducible refine gate_dst (N := 8) rfl ?_); refine sqx 8 #[.int .i64 0, .int .i64 0] 27 ?_; intro gb180 hg w93 hbox hb; have n0_ := Aside0.mk (Kd.R_below (by (with_reducible repeat (first | apply Kd.R_alloc | apply Kd.R_drewN | apply Kd.R_drew)); exact HO169.out) hb); have n1_ := Aside0.mk (Kd.R_below (by (with_reducible repeat (first | apply Kd.R_alloc | apply Kd.R_drewN | apply Kd.R_drew)); exact HO176.out) hb); have n2_ := sqb BK164 hb; have n3_ := sqb BK172 hb; have n4_ := sqb BK177 hb; have n5_ := sqs HB hb; have n6_ := Aside0.mk (hbox); have n7_ := sqg HB hg; have n8_ := sqg HB hg; have n9_ := sqn BK164 hg; have n10_ := sqm BK164 hg; have n11_ := sqn BK172 hg; have n12_ := sqm BK172 hg; have n13_ := sqn BK177 hg; have n14_ := sqm BK177 hg; clear HO169; clear HO176; clear BK164; clear BK172; clear BK177; clear HB; have HO169 := n0_; have HO176 := n1_; have BK164 := n2_; have BK172 := n3_; have BK177 := n4_; have HB := n5_; have BK180 := n6_; have GW180 := n7_; have GE180 := n8_; have NB164_180 := n9_; have NB180_164 := n10_; have NB172_180 := n11_; have NB180_172 := n12_; have NB177_180 := n13_; have NB180_177 := n14_; clear n0_ n1_ n2_ n3_ n4_ n5_ n6_ n7_ n8_ n9_ n10_ n11_ n12_ n13_ n14_; clear hb hbox hg; have hnb94 := NB180_164.out; have hnc94 := NB164_180.out; have hnb95 := NB180_172.out; have hnc95 := NB172_180.out; have hnb96 := NB180_177.out; have hnc96 := NB177_180.out; obtain ⟨hcz97_0, hcz97_1, hfz97_0, hfz97_1⟩ := sqc2 BK180; obtain ⟨hcz98_0, hcz98_1, hfz98_0, hfz98_1⟩ := sqc2 BK172) | ((with_reducible refine gate_callee (f := 18) rfl ?_); refine sqL (some 25) Try.func18 #[.agg #[.int .i64 t178, .int .i64 t179], .agg #[.int .i64 t170, .int .i64 t171]] ?_; (with_reducible refine (laws_eqRange.calls t178 t179 t170 t171 false _ A12.out).mono ?_); rintro e w99 ⟨rfl, hb⟩; refine ⟨_, rfl, ?_⟩; have n0_ := Aside0.mk (Kd.R_below (by (with_reducible repeat (first | apply Kd.R_alloc | apply Kd.R_drewN | apply Kd.R_drew)); exact (Kd.R_mono (Kd.R_far (p := ⟨gb180, 1, none⟩) (Kd.R_far (p := ⟨gb180, 0, none⟩) (Kd.R_types HO169.out BK180.out (by decide)) (fun _ hk => hk.2) (.int .i64 t178)) (fun _ hk => hk.2) (.int .i64 t179)) (fun _ h_ => h_.1))) hb); have n1_ := Aside0.mk (Kd.R_below (by (with_reducible repeat (first | apply Kd.R_alloc | apply Kd.R_drewN | apply Kd.R_drew)); exact (Kd.R_mono (Kd.R_far (p := ⟨gb180, 1, none⟩) (Kd.R_far (p := ⟨gb180, 0, none⟩) (Kd.R_types HO176.out BK180.out (by decide)) (fun _ hk => hk.2) (.int .i64 t178)) (fun _ hk => hk.2) (.int .i64 t179)) (fun _ h_ => h_.1))) hb); have n2_ := Aside0.mk (blk_below (g := gb164) (o := .cells #[.int .i64 a0_0, .slice A0_1 l0_1.length c0_1] 24 (0, 0)) (by refine sqt ?_; refine blk_far ?_ NB164_180.out _; refine sqt ?_; refine blk_far ?_ NB164_180.out _; refine sqt ?_; exact BK164.out) hb); have n3_ := Aside0.mk (blk_below (g := gb172) (o := .cells #[.int .i64 t170, .int .i64 t171] 27 (0, 0)) (by refine sqt ?_; refine blk_far ?_ NB172_180.out _; refine sqt ?_; refine blk_far ?_ NB172_180.out _; refine sqt ?_; exact BK172.out) hb); have n4_ := Aside0.mk (blk_below (g := gb177) (o := .cells #[.int .i64 t173, .slice Ao91 t174.length co91] 29 (0, 0)) (by refine sqt ?_; refine blk_far ?_ NB177_180.out _; refine sqt ?_; refine blk_far ?_ NB177_180.out _; refine sqt ?_; exact BK177.out) hb); have n5_ := Aside0.mk (blk_below (g := gb180) (o := .cells #[.int .i64 t178, .int .i64 t179] 27 (0, 0)) (by refine sqt ?_; refine blk_put (cs := #[.int .i64 t178, .int .i64 0]) ?_ 1 _ rfl; refine sqt ?_; refine blk_put (cs := #[.int .i64 0, .int .i64 0]) ?_ 0 _ rfl; refine sqt ?_; exact BK180.out) hb); have n6_ := sqs HB hb; clear HO169; clear HO176; clear BK164; clear BK172; clear BK177; clear BK180; clear HB; have HO169 := n0_; have HO176 := n1_; have BK164 := n2_; have BK172 := n3_; have BK177 := n4_; have BK180 := n5_; have HB := n6_; clear n0_ n1_ n2_ n3_ n4_ n5_ n6_; (try clear hb); (try clear hb2); (try clear hk); (try clear hi)))
      go_ret
      exact sqe HB

end Go.Proofs.Ytmdcgkkkfncieaa.PFnExactGapsRange
