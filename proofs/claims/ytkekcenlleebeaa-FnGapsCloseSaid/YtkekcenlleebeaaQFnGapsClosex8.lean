/- Functions of the program as plain Lean functions, and that calls of them come to what these tell. Conditions: those in each law. -/
import Derived.Test.YtkekcenlleebeaaSq
import Derived.Test.YtkekcenlleebeaaDFnGapsClose
import Derived.Test.YtkekcenlleebeaaQFnGapsClosex0
import Derived.Test.YtkekcenlleebeaaQFnGapsClosex2
import Derived.Test.YtkekcenlleebeaaQFnGapsClosex6
import Derived.Test.YtkekcenlleebeaaQFnGapsClosex7
namespace Go.Proofs.Ytkekcenlleebeaa.PFnGapsClose
open Go.RowKit Go.Proofs.Ytkekcenlleebeaa.Sq Go.Proofs.YtkekcenlleebeaaW.PrintWords Go.Proofs.YtkekcenlleebeaaW.PrintLast Go.Proofs.YtkekcenlleebeaaW.PrintMore
attribute [local go_sem] max2_int min2_int max_two min_two max_three min_three max_four min_four   -- for this text's walks alone
set_option linter.unusedVariables false
set_option linter.unusedSimpArgs false

/-! ### spec_GapsClose: function 26 -/
def spec_GapsClose.T13 : Bool × List (List Nat × List Nat) := (true, [([], []), ([], []), ([], []), ([0, 1, 2], [0, 1, 2]), ([], []), ([], []), ([], []), ([4, 5, 6, 3], [4, 5, 6]), ([3, 7, 7], [3, 7]), ([8, 8, 0, 1, 2, 3, 4, 5, 6, 7, 8], [8])])
def spec_GapsClose.B13 : List Nat := [0, 0, 0, 7, 0, 0, 0, 127, 255, 511]
theorem spec_GapsClose.tab13 : rtab .any (opsOf Try.f26 13) = spec_GapsClose.T13 := by kernel_rfl
theorem spec_GapsClose.bits13 : waitsOk spec_GapsClose.T13.2 spec_GapsClose.B13 = true := by kernel_rfl
set_option maxHeartbeats 8000000 in
set_option maxRecDepth 100000 in
theorem spec_GapsClose.calls (k : Nat) (a0_0 : Int) (A0_1 : Option Addr) (c0_1 : Nat) (l0_1 : List Int) (r1 : Int) (r2 : List Int) (r3 : Bool) (w : World) (hr0_1 : Kd.C (Kd.int .i64) w A0_1 l0_1.length l0_1) (hc0_1 : l0_1.length ≤ c0_1) (h : spec_GapsClose.f k a0_0 l0_1 = some (r1, r2, r3)) :
  Calls Try.prog 26 #[.agg #[.int .i64 a0_0, .slice A0_1 l0_1.length c0_1]] w fun e w' => ∃ v1_ : Value, e = .returned (.tuple #[.agg #[.int .i64 r1, v1_], .bool r3]) ∧ Kd.R (Kd.int .i64) 3 w' w.heap.size (fun _ => True) v1_ r2 ∧ Below w.heap.size w w' := by
 have hu41 := Try.underlying41
 have HR0_1 := Aside0.mk hr0_1
 have HC0_1 := Aside0.mk hc0_1
 clear hr0_1 hc0_1
 have HB := Aside0.mk (Below.refl w.heap.size w)
 have H : ((spec_GapsOk.f k a0_0 l0_1).bind fun t266 => (if t266 = true then ((spec_l11Copy.f k a0_0 l0_1).bind fun bt267 => (spec_GapsClose.l0 k 0 a0_0 l0_1 bt267.1 bt267.2)) else (some (0, ([] : List Int), false)))) = some (r1, r2, r3) := h
 clear h
 replace H := sqbi H
 obtain ⟨t266, A2, H⟩ := H
 replace H : (if t266 = true then ((spec_l11Copy.f k a0_0 l0_1).bind fun bt267 => (spec_GapsClose.l0 k 0 a0_0 l0_1 bt267.1 bt267.2)) else (some (0, ([] : List Int), false))) = some (r1, r2, r3) := H
 rcases sqI (t266 = true) with c3 | c3
 ·replace c3 := Bool.eq_false_iff.mpr c3
  subst c3
  have H1 : (some (0, ([] : List Int), false)) = some (r1, r2, r3) := by rw [if_neg (show ¬ (false = true) by decide)] at H; exact H
  clear H
  have H := H1
  clear H1
  simp only [Option.some.injEq, Prod.mk.injEq] at H
  obtain ⟨rfl, rfl, rfl⟩ := H
  go_enter Try.func26, Try.ntmps26
  go_wp2_with (first | ((with_reducible refine gate_dst (N := 1) rfl ?_); refine sqx 1 #[.int .i64 a0_0, .slice A0_1 l0_1.length c0_1] 41 ?_; intro gb264 hg w100 hbox hb; have BK264 := Aside0.mk hbox; have GW264 := sqg HB hg; have GE264 := sqg HB hg; replace HB := sqs HB hb; clear hb hbox hg) | ((with_reducible refine gate_dst (N := 2) rfl ?_); refine sqx 2 #[.int .i64 0, .slice none 0 0] 41 ?_; intro gb265 hg w101 hbox hb; have BK265 := Aside0.mk hbox; have GW265 := sqg HB hg; have GE265 := sqg HB hg; have NB264_265 := sqn BK264 hg; have NB265_264 := sqm BK264 hg; replace BK264 := sqb BK264 hb; replace HB := sqs HB hb; clear hb hbox hg; have hnb102 := NB264_265.out; have hnc102 := NB265_264.out; obtain ⟨hcz103_0, hcz103_1, hfz103_0, hfz103_1⟩ := sqc2 BK264) | ((with_reducible refine gate_callee (f := 41) rfl ?_); refine sqL (some 11) Try.func41 #[.agg #[.int .i64 a0_0, .slice A0_1 l0_1.length c0_1]] ?_; (with_reducible refine (spec_GapsOk.calls k a0_0 _ _ l0_1 false _ ?side1 ?side2 A2.out).mono ?_); (case side1 => exact sqC (Kd.C_below HR0_1.out HB.out)); (case side2 => exact HC0_1.out); rintro e w104 ⟨rfl, hb⟩; refine ⟨_, rfl, ?_⟩; refine sqM2 BK264 BK265 hb ?_; clear BK264 BK265; intro BK264 BK265; replace HB := sqs HB hb; (try clear hb); obtain ⟨hcz105_0, hcz105_1, hfz105_0, hfz105_1⟩ := sqc2 BK265))
  refine bodyPost_ret (results_ct rfl _ _ gb265 41 #[.int .i64 0, .slice none 0 0] (0, 0) _ rfl (by refine sqt ?_; refine blk_put (cs := #[.int .i64 0, .slice none 0 0]) ?_ 1 _ rfl; refine sqt ?_; refine blk_put (cs := #[.int .i64 0, .slice none 0 0]) ?_ 0 _ rfl; refine sqt ?_; exact BK265.out) Try.underlying41 rfl (by kernel_rfl)) rfl ?_
  exact ⟨_, by first | rfl | (simp [errW_none, errW_some] <;> rfl) | (simp [*, errW_none, errW_some] <;> rfl), by first | exact Kd.R_nil _ _ _ _ _ | exact Kd.N_nil _ _ _ _ _ | exact Kd.V_nil _ _ _ _ _ | exact Kd.Q_nil _ _ _ _ _ | exact Kd.S_nil _ _ _ _ _, by repeat (first | (with_reducible first | exact HB.out | apply below_alloc | apply pw_below_drewN | apply below_drew1 | refine below_set ?_ GE264.out | refine below_set ?_ GE265.out) | exact HB.out)⟩
 subst c3
 have H1 : ((spec_l11Copy.f k a0_0 l0_1).bind fun bt267 => (spec_GapsClose.l0 k 0 a0_0 l0_1 bt267.1 bt267.2)) = some (r1, r2, r3) := by rw [if_pos rfl] at H; exact H
 clear H
 have H := H1
 clear H1
 replace H := sqbi H
 obtain ⟨⟨t267, t268⟩, A4, H⟩ := H
 replace H : (spec_GapsClose.l0 k 0 a0_0 l0_1 t267 t268) = some (r1, r2, r3) := H
 have H' := Aside0.mk H
 clear H
 go_enter Try.func26, Try.ntmps26
 go_wp2_with (first | ((with_reducible refine gate_dst (N := 1) rfl ?_); refine sqx 1 #[.int .i64 a0_0, .slice A0_1 l0_1.length c0_1] 41 ?_; intro gb264 hg w5 hbox hb; have BK264 := Aside0.mk hbox; have GW264 := sqg HB hg; have GE264 := sqg HB hg; replace HB := sqs HB hb; clear hb hbox hg) | ((with_reducible refine gate_dst (N := 2) rfl ?_); refine sqx 2 #[.int .i64 0, .slice none 0 0] 41 ?_; intro gb265 hg w6 hbox hb; have BK265 := Aside0.mk hbox; have GW265 := sqg HB hg; have GE265 := sqg HB hg; have NB264_265 := sqn BK264 hg; have NB265_264 := sqm BK264 hg; replace BK264 := sqb BK264 hb; replace HB := sqs HB hb; clear hb hbox hg; have hnb7 := NB264_265.out; have hnc7 := NB265_264.out; obtain ⟨hcz8_0, hcz8_1, hfz8_0, hfz8_1⟩ := sqc2 BK264) | ((with_reducible refine gate_callee (f := 41) rfl ?_); refine sqL (some 11) Try.func41 #[.agg #[.int .i64 a0_0, .slice A0_1 l0_1.length c0_1]] ?_; (with_reducible refine (spec_GapsOk.calls k a0_0 _ _ l0_1 true _ ?side1 ?side2 A2.out).mono ?_); (case side1 => exact sqC (Kd.C_below HR0_1.out HB.out)); (case side2 => exact HC0_1.out); rintro e w9 ⟨rfl, hb⟩; refine ⟨_, rfl, ?_⟩; refine sqM2 BK264 BK265 hb ?_; clear BK264 BK265; intro BK264 BK265; replace HB := sqs HB hb; (try clear hb); obtain ⟨hcz10_0, hcz10_1, hfz10_0, hfz10_1⟩ := sqc2 BK264) | ((with_reducible refine gate_callee (f := 113) rfl ?_); refine sqL (some 15) Try.func113 #[.agg #[.int .i64 a0_0, .slice A0_1 l0_1.length c0_1]] ?_; (with_reducible refine (spec_l11Copy.calls k a0_0 _ _ l0_1 t267 t268 _ ?side1 ?side2 A4.out).mono ?_); (case side1 => exact sqC (Kd.C_below HR0_1.out HB.out)); (case side2 => exact HC0_1.out); rintro e w11 ⟨v269, rfl, ho0, hb⟩; refine ⟨_, rfl, ?_⟩; have HO270 := Aside0.mk (Kd.R_lower ho0 (below_size (sqB HB))); refine sqM2 BK264 BK265 hb ?_; clear BK264 BK265; intro BK264 BK265; replace HB := sqs HB hb; (try clear hb); (try clear hb2); (try clear hk); (try clear hi); (try clear ho0)) | ((with_reducible refine gate_dst (N := 4) rfl ?_); refine sqx 4 #[.int .i64 0, .slice none 0 0] 41 ?_; intro gb271 hg w12 hbox hb; have n0_ := Aside0.mk (Kd.R_below (sqy HO270.out) hb); have n1_ := sqb BK264 hb; have n2_ := sqb BK265 hb; have n3_ := sqs HB hb; have n4_ := Aside0.mk (hbox); have n5_ := sqg HB hg; have n6_ := sqg HB hg; have n7_ := sqn BK264 hg; have n8_ := sqm BK264 hg; have n9_ := sqn BK265 hg; have n10_ := sqm BK265 hg; clear HO270; clear BK264; clear BK265; clear HB; have HO270 := n0_; have BK264 := n1_; have BK265 := n2_; have HB := n3_; have BK271 := n4_; have GW271 := n5_; have GE271 := n6_; have NB264_271 := n7_; have NB271_264 := n8_; have NB265_271 := n9_; have NB271_265 := n10_; clear n0_ n1_ n2_ n3_ n4_ n5_ n6_ n7_ n8_ n9_ n10_; clear hb hbox hg; have hnb13 := NB271_264.out; have hnc13 := NB264_271.out; have hnb14 := NB271_265.out; have hnc14 := NB265_271.out; obtain ⟨hcz15_0, hcz15_1, hfz15_0, hfz15_1⟩ := sqc2 BK271; obtain ⟨Ao16, co16, eo16⟩ := Kd.R_slice HO270.out; subst eo16))
 go_loopg [5] k (fun kq v5 w' => ∃ (x5_1 : Int) (x272001_1 : List Int) (u272001 : Value), v5 = .int .i64 x5_1 ∧ Aside0 (spec_GapsClose.l0 kq x5_1 a0_0 l0_1 t267 x272001_1 = some (r1, r2, r3)) ∧ Aside0 (kq ≤ k) ∧ Aside0 (Kd.R (Kd.int .i64) 3 w' w.heap.size (fun _ => True) u272001 x272001_1) ∧ Aside0 (w'.heap[gb264]? = some (.cells #[.int .i64 a0_0, (.slice A0_1 l0_1.length c0_1)] 41 (0, 0))) ∧ Aside0 (w'.heap[gb265]? = some (.cells #[.int .i64 0, (.slice none 0 0)] 41 (0, 0))) ∧ Aside0 (w'.heap[gb271]? = some (.cells #[.int .i64 t267, u272001] 41 (0, 0))) ∧ Aside0 (Below w.heap.size w w'))
 case atStart => exact ⟨(0), (t268), (.slice Ao16 t268.length co16), (by first | rfl | (simp; done) | (simp [*]; done)), H', ⟨Nat.le_refl _⟩, ⟨by (with_reducible repeat (first | apply Kd.R_alloc | apply Kd.R_drewN | apply Kd.R_drew)); exact Kd.R_mono (Kd.R_far (p := ⟨gb271, 1, none⟩) (Kd.R_far (p := ⟨gb271, 0, none⟩) (Kd.R_types HO270.out BK271.out (by decide)) (fun _ hk => hk.2) (.int .i64 t267)) (fun _ hk => hk.2) (.slice Ao16 t268.length co16)) (fun _ hk => trivial)⟩, ⟨by refine sqt ?_; refine blk_far ?_ NB264_271.out _; refine sqt ?_; refine blk_far ?_ NB264_271.out _; refine sqt ?_; exact BK264.out⟩, ⟨by refine sqt ?_; refine blk_far ?_ NB265_271.out _; refine sqt ?_; refine blk_far ?_ NB265_271.out _; refine sqt ?_; exact BK265.out⟩, ⟨by refine sqt ?_; refine blk_put (cs := #[.int .i64 t267, .slice none 0 0]) ?_ 1 _ rfl; refine sqt ?_; refine blk_put (cs := #[.int .i64 0, .slice none 0 0]) ?_ 0 _ rfl; refine sqt ?_; exact BK271.out⟩, sqh HB⟩
 case round =>
  clear H'
  obtain ⟨x5_1, x272001_1, u272001, rfl, HA, HK1, HO_272001, BK264, BK265, BK271, HB⟩ := hrel
  cases gk with
  | zero => exact absurd HA.out (by simp [spec_GapsClose.l0])
  | succ k1 =>
   have H := HA.out
   clear HA
   simp only [spec_GapsClose.l0] at H
   replace H := sqi H
   rcases H with ⟨c17, H⟩ | ⟨c17, H⟩
   ·have c17b0 := decide_eq_false c17
    clear c17
    have H' := Aside0.mk H
    clear H
    have hnb60 := NB264_265.out
    have hnc60 := NB265_264.out
    have hnb61 := NB264_271.out
    have hnc61 := NB271_264.out
    obtain ⟨hcz62_0, hcz62_1, hfz62_0, hfz62_1⟩ := sqc2 BK264
    go_wp2
    go_loopg [9] k1 (fun kq v9 w' => ∃ (x9_2 : Int) (x266000_2 : Int), v9 = .int .i64 x9_2 ∧ Aside0 (spec_GapsClose.l3 kq x9_2 a0_0 l0_1 t267 x272001_1 = some (r1, r2, r3)) ∧ Aside0 (kq ≤ k1) ∧ Aside0 (Kd.R (Kd.int .i64) 3 w' w.heap.size (fun _ => True) u272001 x272001_1) ∧ Aside0 (w'.heap[gb264]? = some (.cells #[.int .i64 a0_0, (.slice A0_1 l0_1.length c0_1)] 41 (0, 0))) ∧ Aside0 (w'.heap[gb265]? = some (.cells #[.int .i64 x266000_2, (.slice none 0 0)] 41 (0, 0))) ∧ Aside0 (w'.heap[gb271]? = some (.cells #[.int .i64 t267, u272001] 41 (0, 0))) ∧ Aside0 (Below w.heap.size w w'))
    case atStart => exact ⟨(0), (0), (by first | rfl | (simp; done) | (simp [*]; done)), H', ⟨Nat.le_refl _⟩, ⟨sqy HO_272001.out⟩, sqk BK264, sqk BK265, sqk BK271, sqh HB⟩
    case round =>
     clear H'
     obtain ⟨x9_2, x266000_2, rfl, HA, HK2, HO_272001, BK264, BK265, BK271, HB⟩ := hrel
     cases gk with
     | zero => exact absurd HA.out (by simp [spec_GapsClose.l3])
     | succ k2 =>
      have H := HA.out
      clear HA
      simp only [spec_GapsClose.l3] at H
      replace H := sqi H
      rcases H with ⟨c63, H⟩ | ⟨c63, H⟩
      ·have c63b0 := decide_eq_false c63
       clear c63
       simp only [Option.some.injEq, Prod.mk.injEq] at H
       obtain ⟨rfl, rfl, rfl⟩ := H
       have hnb94 := NB271_264.out
       have hnc94 := NB264_271.out
       have hnb95 := NB271_265.out
       have hnc95 := NB265_271.out
       obtain ⟨hcz96_0, hcz96_1, hfz96_0, hfz96_1⟩ := sqc2 BK271
       obtain ⟨Ao97, co97, eo97⟩ := Kd.R_slice HO_272001.out
       subst eo97
       have hnb98 := NB265_264.out
       have hnc98 := NB264_265.out
       obtain ⟨hcz99_0, hcz99_1, hfz99_0, hfz99_1⟩ := sqc2 BK265
       go_wp2
       refine bodyPost_ret (results_ct rfl _ _ gb265 41 #[.int .i64 t267, .slice Ao97 x272001_1.length co97] (0, 0) _ rfl (by refine sqt ?_; refine blk_put (cs := #[.int .i64 t267, .slice none 0 0]) ?_ 1 _ rfl; refine sqt ?_; refine blk_put (cs := #[.int .i64 x266000_2, .slice none 0 0]) ?_ 0 _ rfl; refine sqt ?_; exact BK265.out) Try.underlying41 rfl (by kernel_rfl)) rfl ?_
       exact ⟨_, by first | rfl | (simp [errW_none, errW_some] <;> rfl) | (simp [*, errW_none, errW_some] <;> rfl), by (with_reducible repeat (first | apply Kd.R_alloc | apply Kd.R_drewN | apply Kd.R_drew)); exact Kd.R_mono (Kd.R_far (p := ⟨gb265, 1, none⟩) (Kd.R_far (p := ⟨gb265, 0, none⟩) (Kd.R_types HO_272001.out BK265.out (by decide)) (fun _ hk => hk.2) (.int .i64 t267)) (fun _ hk => hk.2) (.slice Ao97 x272001_1.length co97)) (fun _ hk => trivial), by repeat (first | (with_reducible first | exact HB.out | apply below_alloc | apply pw_below_drewN | apply below_drew1 | refine below_set ?_ GE264.out | refine below_set ?_ GE265.out | refine below_set ?_ GE271.out) | exact HB.out)⟩
      have c63b0 := decide_eq_true c63
      clear c63
      replace H := sqi H
      rcases H with ⟨c64, H⟩ | ⟨c64, H⟩
      ·exact absurd H (by simp)
      have c64b0 := decide_eq_true c64
      clear c64
      replace H := sqj H
      rcases H with ⟨c65, H⟩ | ⟨c65, H⟩
      ·have c65b0 := decide_eq_true c65
       clear c65
       simp only [Option.some.injEq, Prod.mk.injEq] at H
       obtain ⟨rfl, rfl, rfl⟩ := H
       have hnb66 := NB271_264.out
       have hnc66 := NB264_271.out
       have hnb67 := NB271_265.out
       have hnc67 := NB265_271.out
       obtain ⟨hcz68_0, hcz68_1, hfz68_0, hfz68_1⟩ := sqc2 BK271
       obtain ⟨Ao69, co69, eo69⟩ := Kd.R_slice HO_272001.out
       subst eo69
       have p277 : 0 ≤ (x9_2 : Int) := sqd
       have q277 : x9_2 < (x272001_1.length : Int) := sqd
       obtain ⟨ad277, e277, hx277_0⟩ := Kd.at_int (Kd.R_reads' HO_272001.out).2.2 x9_2 p277 q277
       cases e277
       replace p277 := eq_true p277
       replace q277 := eq_true q277
       have hnb70 := NB265_264.out
       have hnc70 := NB264_265.out
       obtain ⟨hcz71_0, hcz71_1, hfz71_0, hfz71_1⟩ := sqc2 BK265
       go_wp2
       refine bodyPost_ret (results_ct rfl _ _ gb265 41 #[.int .i64 0, .slice none 0 0] (0, 0) _ rfl (by refine sqt ?_; refine blk_put (cs := #[.int .i64 0, .slice none 0 0]) ?_ 1 _ rfl; refine sqt ?_; refine blk_put (cs := #[.int .i64 x266000_2, .slice none 0 0]) ?_ 0 _ rfl; refine sqt ?_; exact BK265.out) Try.underlying41 rfl (by kernel_rfl)) rfl ?_
       exact ⟨_, by first | rfl | (simp [errW_none, errW_some] <;> rfl) | (simp [*, errW_none, errW_some] <;> rfl), by first | exact Kd.R_nil _ _ _ _ _ | exact Kd.N_nil _ _ _ _ _ | exact Kd.V_nil _ _ _ _ _ | exact Kd.Q_nil _ _ _ _ _ | exact Kd.S_nil _ _ _ _ _, by repeat (first | (with_reducible first | exact HB.out | apply below_alloc | apply pw_below_drewN | apply below_drew1 | refine below_set ?_ GE264.out | refine below_set ?_ GE265.out | refine below_set ?_ GE271.out) | exact HB.out)⟩
      have c65b0 := decide_eq_false c65
      clear c65
      replace H := sqj H
      rcases H with ⟨c72, H⟩ | ⟨c72, H⟩
      ·exact absurd H (by simp)
      have c72b0 : ((wrap64 (a0_0 + 2)) == 0) = false := beq_eq_false_iff_ne.mpr c72
      have c72b1 : ((wrap64 (a0_0 + 2)) != 0) = true := bne_iff_ne.mpr c72
      replace H := sqi H
      rcases H with ⟨c73, H⟩ | ⟨c73, H⟩
      ·have c73b0 : ((Int.tmod x9_2 (wrap64 (a0_0 + 2))) == 0) = false := beq_eq_false_iff_ne.mpr c73
       have c73b1 : ((Int.tmod x9_2 (wrap64 (a0_0 + 2))) != 0) = true := bne_iff_ne.mpr c73
       have H' := Aside0.mk H
       clear H
       have hnb88 := NB271_264.out
       have hnc88 := NB264_271.out
       have hnb89 := NB271_265.out
       have hnc89 := NB265_271.out
       obtain ⟨hcz90_0, hcz90_1, hfz90_0, hfz90_1⟩ := sqc2 BK271
       obtain ⟨Ao91, co91, eo91⟩ := Kd.R_slice HO_272001.out
       subst eo91
       have p277 : 0 ≤ (x9_2 : Int) := sqd
       have q277 : x9_2 < (x272001_1.length : Int) := sqd
       obtain ⟨ad277, e277, hx277_0⟩ := Kd.at_int (Kd.R_reads' HO_272001.out).2.2 x9_2 p277 q277
       cases e277
       replace p277 := eq_true p277
       replace q277 := eq_true q277
       have hnb92 := NB264_265.out
       have hnc92 := NB265_264.out
       obtain ⟨hcz93_0, hcz93_1, hfz93_0, hfz93_1⟩ := sqc2 BK264
       go_wp2
       go_roundg k2
       case measure => have := HK1.out; have := HK2.out; omega
       case rel => exact ⟨(wrap64 (x9_2 + 1)), (x266000_2), (by first | rfl | (simp; done) | (simp [*]; done)), H', ⟨by have := HK1.out; have := HK2.out; omega⟩, ⟨sqy HO_272001.out⟩, sqk BK264, sqk BK265, sqk BK271, sqh HB⟩
      have c73b0 : ((Int.tmod x9_2 (wrap64 (a0_0 + 2))) == 0) = true := beq_iff_eq.mpr c73
      have c73b1 : ((Int.tmod x9_2 (wrap64 (a0_0 + 2))) != 0) = false := bne_eq_false_iff_eq.mpr c73
      clear c73
      replace H := sqi H
      rcases H with ⟨c74, H⟩ | ⟨c74, H⟩
      ·have c74b0 := decide_eq_false c74
       clear c74
       have H' := Aside0.mk H
       clear H
       have hnb82 := NB271_264.out
       have hnc82 := NB264_271.out
       have hnb83 := NB271_265.out
       have hnc83 := NB265_271.out
       obtain ⟨hcz84_0, hcz84_1, hfz84_0, hfz84_1⟩ := sqc2 BK271
       obtain ⟨Ao85, co85, eo85⟩ := Kd.R_slice HO_272001.out
       subst eo85
       have p277 : 0 ≤ (x9_2 : Int) := sqd
       have q277 : x9_2 < (x272001_1.length : Int) := sqd
       obtain ⟨ad277, e277, hx277_0⟩ := Kd.at_int (Kd.R_reads' HO_272001.out).2.2 x9_2 p277 q277
       cases e277
       replace p277 := eq_true p277
       replace q277 := eq_true q277
       have hnb86 := NB264_265.out
       have hnc86 := NB265_264.out
       obtain ⟨hcz87_0, hcz87_1, hfz87_0, hfz87_1⟩ := sqc2 BK264
       have p278 : 0 ≤ (x9_2 : Int) := sqd
       have q278 : x9_2 < (x272001_1.length : Int) := sqd
       obtain ⟨ad278, e278, hx278_0⟩ := Kd.at_int (Kd.R_reads' HO_272001.out).2.2 x9_2 p278 q278
       obtain rfl : ad277 = ad278 := (by injection e278)
       replace p278 := eq_true p278
       replace q278 := eq_true q278
       go_wp2
       go_roundg k2
       case measure => have := HK1.out; have := HK2.out; omega
       case rel => exact ⟨(wrap64 (x9_2 + 1)), (x266000_2), (by first | rfl | (simp; done) | (simp [*]; done)), H', ⟨by have := HK1.out; have := HK2.out; omega⟩, ⟨sqy HO_272001.out⟩, sqk BK264, sqk BK265, sqk BK271, sqh HB⟩
      have c74b0 := decide_eq_true c74
      clear c74
      simp only [Option.some.injEq, Prod.mk.injEq] at H
      obtain ⟨rfl, rfl, rfl⟩ := H
      have hnb75 := NB271_264.out
      have hnc75 := NB264_271.out
      have hnb76 := NB271_265.out
      have hnc76 := NB265_271.out
      obtain ⟨hcz77_0, hcz77_1, hfz77_0, hfz77_1⟩ := sqc2 BK271
      obtain ⟨Ao78, co78, eo78⟩ := Kd.R_slice HO_272001.out
      subst eo78
      have p277 : 0 ≤ (x9_2 : Int) := sqd
      have q277 : x9_2 < (x272001_1.length : Int) := sqd
      obtain ⟨ad277, e277, hx277_0⟩ := Kd.at_int (Kd.R_reads' HO_272001.out).2.2 x9_2 p277 q277
      cases e277
      replace p277 := eq_true p277
      replace q277 := eq_true q277
      have hnb79 := NB264_265.out
      have hnc79 := NB265_264.out
      obtain ⟨hcz80_0, hcz80_1, hfz80_0, hfz80_1⟩ := sqc2 BK264
      have p278 : 0 ≤ (x9_2 : Int) := sqd
      have q278 : x9_2 < (x272001_1.length : Int) := sqd
      obtain ⟨ad278, e278, hx278_0⟩ := Kd.at_int (Kd.R_reads' HO_272001.out).2.2 x9_2 p278 q278
      obtain rfl : ad277 = ad278 := (by injection e278)
      replace p278 := eq_true p278
      replace q278 := eq_true q278
      obtain ⟨hcz81_0, hcz81_1, hfz81_0, hfz81_1⟩ := sqc2 BK265
      go_wp2
      refine bodyPost_ret (results_ct rfl _ _ gb265 41 #[.int .i64 0, .slice none 0 0] (0, 0) _ rfl (by refine sqt ?_; refine blk_put (cs := #[.int .i64 0, .slice none 0 0]) ?_ 1 _ rfl; refine sqt ?_; refine blk_put (cs := #[.int .i64 x266000_2, .slice none 0 0]) ?_ 0 _ rfl; refine sqt ?_; exact BK265.out) Try.underlying41 rfl (by kernel_rfl)) rfl ?_
      exact ⟨_, by first | rfl | (simp [errW_none, errW_some] <;> rfl) | (simp [*, errW_none, errW_some] <;> rfl), by first | exact Kd.R_nil _ _ _ _ _ | exact Kd.N_nil _ _ _ _ _ | exact Kd.V_nil _ _ _ _ _ | exact Kd.Q_nil _ _ _ _ _ | exact Kd.S_nil _ _ _ _ _, by repeat (first | (with_reducible first | exact HB.out | apply below_alloc | apply pw_below_drewN | apply below_drew1 | refine below_set ?_ GE264.out | refine below_set ?_ GE265.out | refine below_set ?_ GE271.out) | exact HB.out)⟩
   have c17b0 := decide_eq_true c17
   clear c17
   have H' := Aside0.mk H
   clear H
   have hnb18 := NB264_265.out
   have hnc18 := NB265_264.out
   have hnb19 := NB264_271.out
   have hnc19 := NB271_264.out
   obtain ⟨hcz20_0, hcz20_1, hfz20_0, hfz20_1⟩ := sqc2 BK264
   go_wp2
   go_loopg [6] k1 (fun kq v6 w' => ∃ (x6_2 : Int) (x272001_2 : List Int) (u272001 : Value), v6 = .int .i64 x6_2 ∧ Aside0 (spec_GapsClose.l1 kq x5_1 x6_2 a0_0 l0_1 t267 x272001_2 = some (r1, r2, r3)) ∧ Aside0 (kq ≤ k1) ∧ Aside0 (Kd.R (Kd.int .i64) 3 w' w.heap.size (fun _ => True) u272001 x272001_2) ∧ Aside0 (w'.heap[gb264]? = some (.cells #[.int .i64 a0_0, (.slice A0_1 l0_1.length c0_1)] 41 (0, 0))) ∧ Aside0 (w'.heap[gb265]? = some (.cells #[.int .i64 0, (.slice none 0 0)] 41 (0, 0))) ∧ Aside0 (w'.heap[gb271]? = some (.cells #[.int .i64 t267, u272001] 41 (0, 0))) ∧ Aside0 (Below w.heap.size w w'))
   case atStart => exact ⟨(0), (x272001_1), (u272001), (by first | rfl | (simp; done) | (simp [*]; done)), H', ⟨Nat.le_refl _⟩, ⟨sqy HO_272001.out⟩, sqk BK264, sqk BK265, sqk BK271, sqh HB⟩
   case round =>
    clear H'
    obtain ⟨x6_2, x272001_2, u272001, rfl, HA, HK2, HO_272001, BK264, BK265, BK271, HB⟩ := hrel
    cases gk with
    | zero => exact absurd HA.out (by simp [spec_GapsClose.l1])
    | succ k2 =>
     have H := HA.out
     clear HA
     simp only [spec_GapsClose.l1] at H
     replace H := sqi H
     rcases H with ⟨c21, H⟩ | ⟨c21, H⟩
     ·have c21b0 := decide_eq_false c21
      clear c21
      have H' := Aside0.mk H
      clear H
      have hnb57 := NB264_265.out
      have hnc57 := NB265_264.out
      have hnb58 := NB264_271.out
      have hnc58 := NB271_264.out
      obtain ⟨hcz59_0, hcz59_1, hfz59_0, hfz59_1⟩ := sqc2 BK264
      go_wp2
      go_roundg k2
      case measure => have := HK1.out; have := HK2.out; omega
      case rel => exact ⟨(wrap64 (x5_1 + 1)), (x272001_2), (u272001), (by first | rfl | (simp; done) | (simp [*]; done)), H', ⟨by have := HK1.out; have := HK2.out; omega⟩, ⟨sqy HO_272001.out⟩, sqk BK264, sqk BK265, sqk BK271, sqh HB⟩
     have c21b0 := decide_eq_true c21
     clear c21
     have H' := Aside0.mk H
     clear H
     have hnb22 := NB264_265.out
     have hnc22 := NB265_264.out
     have hnb23 := NB264_271.out
     have hnc23 := NB271_264.out
     obtain ⟨hcz24_0, hcz24_1, hfz24_0, hfz24_1⟩ := sqc2 BK264
     go_wp2
     go_loopg [7] k2 (fun kq v7 w' => ∃ (x7_3 : Int) (x272001_3 : List Int) (u272001 : Value), v7 = .int .i64 x7_3 ∧ Aside0 (spec_GapsClose.l2 kq x5_1 x6_2 x7_3 a0_0 l0_1 t267 x272001_3 = some (r1, r2, r3)) ∧ Aside0 (kq ≤ k2) ∧ Aside0 (Kd.R (Kd.int .i64) 3 w' w.heap.size (fun _ => True) u272001 x272001_3) ∧ Aside0 (w'.heap[gb264]? = some (.cells #[.int .i64 a0_0, (.slice A0_1 l0_1.length c0_1)] 41 (0, 0))) ∧ Aside0 (w'.heap[gb265]? = some (.cells #[.int .i64 0, (.slice none 0 0)] 41 (0, 0))) ∧ Aside0 (w'.heap[gb271]? = some (.cells #[.int .i64 t267, u272001] 41 (0, 0))) ∧ Aside0 (Below w.heap.size w w'))
     case atStart => exact ⟨(0), (x272001_2), (u272001), (by first | rfl | (simp; done) | (simp [*]; done)), H', ⟨Nat.le_refl _⟩, ⟨sqy HO_272001.out⟩, sqk BK264, sqk BK265, sqk BK271, sqh HB⟩
     case round =>
      clear H'
      obtain ⟨x7_3, x272001_3, u272001, rfl, HA, HK3, HO_272001, BK264, BK265, BK271, HB⟩ := hrel
      cases gk with
      | zero => exact absurd HA.out (by simp [spec_GapsClose.l2])
      | succ k3 =>
       have H := HA.out
       clear HA
       simp only [spec_GapsClose.l2] at H
       replace H := sqi H
       rcases H with ⟨c25, H⟩ | ⟨c25, H⟩
       ·have c25b0 := decide_eq_false c25
        clear c25
        have H' := Aside0.mk H
        clear H
        have hnb54 := NB264_265.out
        have hnc54 := NB265_264.out
        have hnb55 := NB264_271.out
        have hnc55 := NB271_264.out
        obtain ⟨hcz56_0, hcz56_1, hfz56_0, hfz56_1⟩ := sqc2 BK264
        go_wp2
        go_roundg k3
        case measure => have := HK1.out; have := HK2.out; have := HK3.out; omega
        case rel => exact ⟨(wrap64 (x6_2 + 1)), (x272001_3), (u272001), (by first | rfl | (simp; done) | (simp [*]; done)), H', ⟨by have := HK1.out; have := HK2.out; have := HK3.out; omega⟩, ⟨sqy HO_272001.out⟩, sqk BK264, sqk BK265, sqk BK271, sqh HB⟩
       have c25b0 := decide_eq_true c25
       clear c25
       replace H := sqbi H
       obtain ⟨t272, A26, H⟩ := H
       replace H : ((spec_l11At.f t267 x272001_3 x5_1 x7_3).bind fun t273 => ((spec_l11Add.f t272 t273).bind fun t274 => ((spec_l11At.f t267 x272001_3 x6_2 x7_3).bind fun t275 => (if t274 < t275 then ((spec_l11Put.f t267 x272001_3 x6_2 x7_3 t274).bind fun t276 => (spec_GapsClose.l2 k3 x5_1 x6_2 (wrap64 (x7_3 + 1)) a0_0 l0_1 t267 t276)) else (spec_GapsClose.l2 k3 x5_1 x6_2 (wrap64 (x7_3 + 1)) a0_0 l0_1 t267 x272001_3))))) = some (r1, r2, r3) := H
       replace H := sqbi H
       obtain ⟨t273, A27, H⟩ := H
       replace H : ((spec_l11Add.f t272 t273).bind fun t274 => ((spec_l11At.f t267 x272001_3 x6_2 x7_3).bind fun t275 => (if t274 < t275 then ((spec_l11Put.f t267 x272001_3 x6_2 x7_3 t274).bind fun t276 => (spec_GapsClose.l2 k3 x5_1 x6_2 (wrap64 (x7_3 + 1)) a0_0 l0_1 t267 t276)) else (spec_GapsClose.l2 k3 x5_1 x6_2 (wrap64 (x7_3 + 1)) a0_0 l0_1 t267 x272001_3)))) = some (r1, r2, r3) := H
       replace H := sqbi H
       obtain ⟨t274, A28, H⟩ := H
       replace H : ((spec_l11At.f t267 x272001_3 x6_2 x7_3).bind fun t275 => (if t274 < t275 then ((spec_l11Put.f t267 x272001_3 x6_2 x7_3 t274).bind fun t276 => (spec_GapsClose.l2 k3 x5_1 x6_2 (wrap64 (x7_3 + 1)) a0_0 l0_1 t267 t276)) else (spec_GapsClose.l2 k3 x5_1 x6_2 (wrap64 (x7_3 + 1)) a0_0 l0_1 t267 x272001_3))) = some (r1, r2, r3) := H
       replace H := sqbi H
       obtain ⟨t275, A29, H⟩ := H
       replace H : (if t274 < t275 then ((spec_l11Put.f t267 x272001_3 x6_2 x7_3 t274).bind fun t276 => (spec_GapsClose.l2 k3 x5_1 x6_2 (wrap64 (x7_3 + 1)) a0_0 l0_1 t267 t276)) else (spec_GapsClose.l2 k3 x5_1 x6_2 (wrap64 (x7_3 + 1)) a0_0 l0_1 t267 x272001_3)) = some (r1, r2, r3) := H
       replace H := sqi H
       rcases H with ⟨c30, H⟩ | ⟨c30, H⟩
       ·have c30b0 := decide_eq_false c30
        clear c30
        have H' := Aside0.mk H
        clear H
        have hnb44 := NB264_265.out
        have hnc44 := NB265_264.out
        have hnb45 := NB264_271.out
        have hnc45 := NB271_264.out
        obtain ⟨hcz46_0, hcz46_1, hfz46_0, hfz46_1⟩ := sqc2 BK264
        try go_wp2
        replace HO_272001 := Aside0.mk (Kd.R_drew HO_272001.out)
        replace BK264 := Aside0.mk (blk_drew BK264.out)
        replace BK265 := Aside0.mk (blk_drew BK265.out)
        replace BK271 := Aside0.mk (blk_drew BK271.out)
        replace HB := Aside0.mk (below_drew1 HB.out)
        obtain ⟨Ao48, co48, eo48⟩ := Kd.R_slice HO_272001.out
        (first | subst eo48 | (injection eo48 with f1_ f2_ f3_; have f4_ := f1_.symm; have f5_ := f3_.symm; clear f1_ f2_ f3_; subst f4_; subst f5_))
        refine start_ (n := 10) (S := fun w' => w'.cell? ⟨gb271, 0, none⟩ = some (.int .i64 t267) ∧ w'.cell? ⟨gb271, 1, none⟩ = some (.slice Ao48 x272001_3.length co48)) (ds := []) #[false, false, false, false, false, false, false, false, false, false] (by kernel_rfl) rfl rfl sqz (fun hHeld => ?_); refine with_tabW spec_GapsClose.tab13 spec_GapsClose.bits13 (fun HT_ HW_ => ?_)
        generalize wr.drew = w47 at HO_272001 BK264 BK265 BK271 HB hHeld ⊢
        refine sqp HT_ 1 35 ?_
        refine sqp HT_ 2 36 ?_
        refine sqp HT_ 5 39 ?_
        refine sqp HT_ 6 40 ?_
        refine sqw HT_ HW_ 0 34 hHeld ?_
        refine sqw HT_ HW_ 4 38 hHeld ?_
        refine sqo HT_ 3 37 (fun K hK => ?_)
        refine sqG Try.func115 #[.agg #[.int .i64 t267, .slice Ao48 x272001_3.length co48], .int .i64 x6_2, .int .i64 x5_1] ?_
        with_reducible refine (spec_l11At.calls t267 _ _ x272001_3 x6_2 x5_1 t272 _ ?side1 ?side2 A26.out).mono ?_
        (case side1 => exact sqC (Kd.R_reads' HO_272001.out).2.2)
        (case side2 => exact (Kd.R_reads' HO_272001.out).2.1)
        rintro e w49 ⟨rfl, hb⟩
        refine ⟨_, rfl, ?_⟩
        have n0_ := Aside0.mk (Kd.R_below (sqy HO_272001.out) hb)
        have n1_ := sqb BK264 hb
        have n2_ := sqb BK265 hb
        have n3_ := sqb BK271 hb
        have n4_ := sqs HB hb
        clear HO_272001
        clear BK264
        clear BK265
        clear BK271
        clear HB
        have HO_272001 := n0_
        have BK264 := n1_
        have BK265 := n2_
        have BK271 := n3_
        have HB := n4_
        clear n0_ n1_ n2_ n3_ n4_
        (try clear hb)
        refine hK.out _ _ sqz (fun hHeld => ?_)
        clear hK K
        refine sqnm ?_
        refine sqo HT_ 7 41 (fun K hK => ?_)
        refine sqG Try.func115 #[.agg #[.int .i64 t267, .slice Ao48 x272001_3.length co48], .int .i64 x5_1, .int .i64 x7_3] ?_
        with_reducible refine (spec_l11At.calls t267 _ _ x272001_3 x5_1 x7_3 t273 _ ?side1 ?side2 A27.out).mono ?_
        (case side1 => exact sqC (Kd.R_reads' HO_272001.out).2.2)
        (case side2 => exact (Kd.R_reads' HO_272001.out).2.1)
        rintro e w50 ⟨rfl, hb⟩
        refine ⟨_, rfl, ?_⟩
        have n0_ := Aside0.mk (Kd.R_below (sqy HO_272001.out) hb)
        have n1_ := sqb BK264 hb
        have n2_ := sqb BK265 hb
        have n3_ := sqb BK271 hb
        have n4_ := sqs HB hb
        clear HO_272001
        clear BK264
        clear BK265
        clear BK271
        clear HB
        have HO_272001 := n0_
        have BK264 := n1_
        have BK265 := n2_
        have BK271 := n3_
        have HB := n4_
        clear n0_ n1_ n2_ n3_ n4_
        (try clear hb)
        refine hK.out _ _ sqz (fun hHeld => ?_)
        clear hK K
        refine sqnm ?_
        refine sqo HT_ 8 42 (fun K hK => ?_)
        refine sqG Try.func114 #[.int .i64 t272, .int .i64 t273] ?_
        with_reducible refine (spec_l11Add.calls t272 t273 t274 _ A28.out).mono ?_
        rintro e w' ⟨rfl, ⟨nd, rfl⟩⟩
        refine ⟨_, rfl, ?_⟩
        refine hK.out _ _ sqz (fun hHeld => ?_)
        clear hK K
        refine sqnm ?_
        refine sqp HT_ 9 8 ?_
        refine done_ (done_of HT_.out (by kernel_rfl)) ?_
        have hnb51 := NB271_265.out
        have hnc51 := NB265_271.out
        obtain ⟨hcz52_0, hcz52_1, hfz52_0, hfz52_1⟩ := sqc2 BK271
        try go_wp2_with (first | ((with_reducible refine gate_callee (f := 115) rfl ?_); refine sqL (some 47) Try.func115 #[.agg #[.int .i64 t267, .slice Ao48 x272001_3.length co48], .int .i64 x6_2, .int .i64 x7_3] ?_; (with_reducible refine (spec_l11At.calls t267 _ _ x272001_3 x6_2 x7_3 t275 _ ?side1 ?side2 A29.out).mono ?_); (case side1 => exact sqC (Kd.R_reads' HO_272001.out).2.2); (case side2 => exact (Kd.R_reads' HO_272001.out).2.1); rintro e w53 ⟨rfl, hb⟩; refine ⟨_, rfl, ?_⟩; have n0_ := Aside0.mk (Kd.R_below (sqy HO_272001.out) hb); have n1_ := sqb BK264 hb; have n2_ := sqb BK265 hb; have n3_ := sqb BK271 hb; have n4_ := sqs HB hb; clear HO_272001; clear BK264; clear BK265; clear BK271; clear HB; have HO_272001 := n0_; have BK264 := n1_; have BK265 := n2_; have BK271 := n3_; have HB := n4_; clear n0_ n1_ n2_ n3_ n4_; (try clear hb)))
        go_roundg k3
        case measure => have := HK1.out; have := HK2.out; have := HK3.out; omega
        case rel => exact ⟨(wrap64 (x7_3 + 1)), (x272001_3), (.slice Ao48 x272001_3.length co48), (by first | rfl | (simp; done) | (simp [*]; done)), H', ⟨by have := HK1.out; have := HK2.out; have := HK3.out; omega⟩, ⟨sqy HO_272001.out⟩, sqk BK264, sqk BK265, sqk BK271, sqh HB⟩
       have c30b0 := decide_eq_true c30
       clear c30
       replace H := sqbi H
       obtain ⟨t276, A31, H⟩ := H
       replace H : (spec_GapsClose.l2 k3 x5_1 x6_2 (wrap64 (x7_3 + 1)) a0_0 l0_1 t267 t276) = some (r1, r2, r3) := H
       have H' := Aside0.mk H
       clear H
       have hnb32 := NB264_265.out
       have hnc32 := NB265_264.out
       have hnb33 := NB264_271.out
       have hnc33 := NB271_264.out
       obtain ⟨hcz34_0, hcz34_1, hfz34_0, hfz34_1⟩ := sqc2 BK264
       try go_wp2
       replace HO_272001 := Aside0.mk (Kd.R_drew HO_272001.out)
       replace BK264 := Aside0.mk (blk_drew BK264.out)
       replace BK265 := Aside0.mk (blk_drew BK265.out)
       replace BK271 := Aside0.mk (blk_drew BK271.out)
       replace HB := Aside0.mk (below_drew1 HB.out)
       obtain ⟨Ao36, co36, eo36⟩ := Kd.R_slice HO_272001.out
       (first | subst eo36 | (injection eo36 with f1_ f2_ f3_; have f4_ := f1_.symm; have f5_ := f3_.symm; clear f1_ f2_ f3_; subst f4_; subst f5_))
       refine start_ (n := 10) (S := fun w' => w'.cell? ⟨gb271, 0, none⟩ = some (.int .i64 t267) ∧ w'.cell? ⟨gb271, 1, none⟩ = some (.slice Ao36 x272001_3.length co36)) (ds := []) #[false, false, false, false, false, false, false, false, false, false] (by kernel_rfl) rfl rfl sqz (fun hHeld => ?_); refine with_tabW spec_GapsClose.tab13 spec_GapsClose.bits13 (fun HT_ HW_ => ?_)
       generalize wr.drew = w35 at HO_272001 BK264 BK265 BK271 HB hHeld ⊢
       refine sqp HT_ 1 35 ?_
       refine sqp HT_ 2 36 ?_
       refine sqp HT_ 5 39 ?_
       refine sqp HT_ 6 40 ?_
       refine sqw HT_ HW_ 0 34 hHeld ?_
       refine sqw HT_ HW_ 4 38 hHeld ?_
       refine sqo HT_ 3 37 (fun K hK => ?_)
       refine sqG Try.func115 #[.agg #[.int .i64 t267, .slice Ao36 x272001_3.length co36], .int .i64 x6_2, .int .i64 x5_1] ?_
       with_reducible refine (spec_l11At.calls t267 _ _ x272001_3 x6_2 x5_1 t272 _ ?side1 ?side2 A26.out).mono ?_
       (case side1 => exact sqC (Kd.R_reads' HO_272001.out).2.2)
       (case side2 => exact (Kd.R_reads' HO_272001.out).2.1)
       rintro e w37 ⟨rfl, hb⟩
       refine ⟨_, rfl, ?_⟩
       have n0_ := Aside0.mk (Kd.R_below (sqy HO_272001.out) hb)
       have n1_ := sqb BK264 hb
       have n2_ := sqb BK265 hb
       have n3_ := sqb BK271 hb
       have n4_ := sqs HB hb
       clear HO_272001
       clear BK264
       clear BK265
       clear BK271
       clear HB
       have HO_272001 := n0_
       have BK264 := n1_
       have BK265 := n2_
       have BK271 := n3_
       have HB := n4_
       clear n0_ n1_ n2_ n3_ n4_
       (try clear hb)
       refine hK.out _ _ sqz (fun hHeld => ?_)
       clear hK K
       refine sqnm ?_
       refine sqo HT_ 7 41 (fun K hK => ?_)
       refine sqG Try.func115 #[.agg #[.int .i64 t267, .slice Ao36 x272001_3.length co36], .int .i64 x5_1, .int .i64 x7_3] ?_
       with_reducible refine (spec_l11At.calls t267 _ _ x272001_3 x5_1 x7_3 t273 _ ?side1 ?side2 A27.out).mono ?_
       (case side1 => exact sqC (Kd.R_reads' HO_272001.out).2.2)
       (case side2 => exact (Kd.R_reads' HO_272001.out).2.1)
       rintro e w38 ⟨rfl, hb⟩
       refine ⟨_, rfl, ?_⟩
       have n0_ := Aside0.mk (Kd.R_below (sqy HO_272001.out) hb)
       have n1_ := sqb BK264 hb
       have n2_ := sqb BK265 hb
       have n3_ := sqb BK271 hb
       have n4_ := sqs HB hb
       clear HO_272001
       clear BK264
       clear BK265
       clear BK271
       clear HB
       have HO_272001 := n0_
       have BK264 := n1_
       have BK265 := n2_
       have BK271 := n3_
       have HB := n4_
       clear n0_ n1_ n2_ n3_ n4_
       (try clear hb)
       refine hK.out _ _ sqz (fun hHeld => ?_)
       clear hK K
       refine sqnm ?_
       refine sqo HT_ 8 42 (fun K hK => ?_)
       refine sqG Try.func114 #[.int .i64 t272, .int .i64 t273] ?_
       with_reducible refine (spec_l11Add.calls t272 t273 t274 _ A28.out).mono ?_
       rintro e w' ⟨rfl, ⟨nd, rfl⟩⟩
       refine ⟨_, rfl, ?_⟩
       refine hK.out _ _ sqz (fun hHeld => ?_)
       clear hK K
       refine sqnm ?_
       refine sqp HT_ 9 8 ?_
       refine done_ (done_of HT_.out (by kernel_rfl)) ?_
       have hnb39 := NB271_265.out
       have hnc39 := NB265_271.out
       obtain ⟨hcz40_0, hcz40_1, hfz40_0, hfz40_1⟩ := sqc2 BK271
       try go_wp2_with (first | ((with_reducible refine gate_callee (f := 115) rfl ?_); refine sqL (some 47) Try.func115 #[.agg #[.int .i64 t267, .slice Ao36 x272001_3.length co36], .int .i64 x6_2, .int .i64 x7_3] ?_; (with_reducible refine (spec_l11At.calls t267 _ _ x272001_3 x6_2 x7_3 t275 _ ?side1 ?side2 A29.out).mono ?_); (case side1 => exact sqC (Kd.R_reads' HO_272001.out).2.2); (case side2 => exact (Kd.R_reads' HO_272001.out).2.1); rintro e w41 ⟨rfl, hb⟩; refine ⟨_, rfl, ?_⟩; have n0_ := Aside0.mk (Kd.R_below (sqy HO_272001.out) hb); have n1_ := sqb BK264 hb; have n2_ := sqb BK265 hb; have n3_ := sqb BK271 hb; have n4_ := sqs HB hb; clear HO_272001; clear BK264; clear BK265; clear BK271; clear HB; have HO_272001 := n0_; have BK264 := n1_; have BK265 := n2_; have BK271 := n3_; have HB := n4_; clear n0_ n1_ n2_ n3_ n4_; (try clear hb); obtain ⟨hcz42_0, hcz42_1, hfz42_0, hfz42_1⟩ := sqc2 BK271) | ((with_reducible refine gate_callee (f := 116) rfl ?_); refine sqL (some 53) Try.func116 #[.agg #[.int .i64 t267, .slice Ao36 x272001_3.length co36], .int .i64 x6_2, .int .i64 x7_3, .int .i64 t274] ?_; (with_reducible refine (spec_l11Put.calls t267 (fun k_ => some k_ = (.slice Ao36 x272001_3.length co36 : Value).ownBlock) (.slice Ao36 x272001_3.length co36) x272001_3 x6_2 x7_3 t274 t276 w _ ?side1 ?side2 A31.out).mono ?_); (case side1 => repeat (first | (with_reducible first | exact HB.out | apply below_alloc | apply pw_below_drewN | apply below_drew1 | refine below_set ?_ GE264.out | refine below_set ?_ GE265.out | refine below_set ?_ GE271.out) | exact HB.out)); (case side2 => exact Kd.R_tight rfl HO_272001.out); rintro e w43 ⟨rfl, hy0, hb, hkp⟩; refine ⟨_, rfl, ?_⟩; have n0_ := Aside0.mk (Kd.R_reok rfl hy0 (fun k_ e_ => HO_272001.out.1 k_ e_)); have n1_ := Aside0.mk (blk_kept (sqt BK264.out) hkp (fun hs_ => (fun e_ => (Kd.R_ne HO_272001.out BK264.out (by decide)) e_) hs_)); have n2_ := Aside0.mk (blk_kept (sqt BK265.out) hkp (fun hs_ => (fun e_ => (Kd.R_ne HO_272001.out BK265.out (by decide)) e_) hs_)); have n3_ := Aside0.mk (blk_kept (sqt BK271.out) hkp (fun hs_ => (fun e_ => (Kd.R_ne HO_272001.out BK271.out (by decide)) e_) hs_)); have n4_ := Aside0.mk (hb); clear HO_272001; clear BK264; clear BK265; clear BK271; clear HB; have HO_272001 := n0_; have BK264 := n1_; have BK265 := n2_; have BK271 := n3_; have HB := n4_; clear n0_ n1_ n2_ n3_ n4_; (try clear hb); (try clear hkp); (try clear hy0)))
       go_roundg k3
       case measure => have := HK1.out; have := HK2.out; have := HK3.out; omega
       case rel => exact ⟨(wrap64 (x7_3 + 1)), (t276), (.slice Ao36 x272001_3.length co36), (by first | rfl | (simp; done) | (simp [*]; done)), H', ⟨by have := HK1.out; have := HK2.out; have := HK3.out; omega⟩, ⟨sqy HO_272001.out⟩, sqk BK264, sqk BK265, sqk BK271, sqh HB⟩

end Go.Proofs.Ytkekcenlleebeaa.PFnGapsClose
