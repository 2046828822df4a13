/- Functions of the program as plain Lean functions, and that calls of them come to what these tell. Conditions: those in each law. -/
import Derived.Test.YtnmgckdgmplddaaSq
import Derived.Test.YtnmgckdgmplddaaDFnExactAbsHas
import Derived.Test.YtnmgckdgmplddaaQFnExactAbsHasx0
import Derived.Test.YtnmgckdgmplddaaQFnExactAbsHasx16
import Derived.Test.YtnmgckdgmplddaaQFnExactAbsHasx18
import Derived.Test.YtnmgckdgmplddaaQFnExactAbsHasx19
import Derived.Test.YtnmgckdgmplddaaQFnExactAbsHasx20
namespace Go.Proofs.Ytnmgckdgmplddaa.PFnExactAbsHas
open Go.RowKit Go.Proofs.Ytnmgckdgmplddaa.Sq Go.Proofs.YtnmgckdgmplddaaW.PrintWords Go.Proofs.YtnmgckdgmplddaaW.PrintLast Go.Proofs.YtnmgckdgmplddaaW.PrintMore
attribute [local go_sem] max2_int min2_int max_two min_two max_three min_three max_four min_four   -- for this text's walks alone
set_option linter.unusedVariables false
set_option linter.unusedSimpArgs false

/-! ### impl_AbsOk: function 30 -/
set_option maxHeartbeats 8000000 in
set_option maxRecDepth 100000 in
theorem impl_AbsOk.calls (k : Nat) (a0_0 : Bool) (A0_1 : Option Addr) (c0_1 : Nat) (l0_1 : List (S60)) (A0_2 : Option Addr) (c0_2 : Nat) (l0_2 : List (S63)) (A0_3 : Option Addr) (c0_3 : Nat) (l0_3 : List (S60)) (a0_4 : Int) (A0_5 : Option Addr) (c0_5 : Nat) (l0_5 : List Int) (r : Bool) (w : World) (hr0_1 : Kd.C k60 w A0_1 l0_1.length l0_1) (hc0_1 : l0_1.length ≤ c0_1) (hr0_2 : Kd.C k63 w A0_2 l0_2.length l0_2) (hc0_2 : l0_2.length ≤ c0_2) (hr0_3 : Kd.C k60 w A0_3 l0_3.length l0_3) (hc0_3 : l0_3.length ≤ c0_3) (hr0_5 : Kd.C (Kd.int .i64) w A0_5 l0_5.length l0_5) (hc0_5 : l0_5.length ≤ c0_5) (h : impl_AbsOk.f k a0_0 l0_1 l0_2 l0_3 a0_4 l0_5 = some r) :
  Calls Try.prog 30 #[.agg #[.bool a0_0, .slice A0_1 l0_1.length c0_1, .slice A0_2 l0_2.length c0_2, .slice A0_3 l0_3.length c0_3, .int .i64 a0_4, .slice A0_5 l0_5.length c0_5]] w fun e w' => e = .returned (.bool r) ∧ Below w.heap.size w w' := by
 have hu39 := Try.underlying39
 have hu60 := Try.underlying60
 have hu63 := Try.underlying63
 have hu37 := Try.underlying37
 have HR0_1 := Aside0.mk hr0_1
 have HC0_1 := Aside0.mk hc0_1
 clear hr0_1 hc0_1
 have HR0_2 := Aside0.mk hr0_2
 have HC0_2 := Aside0.mk hc0_2
 clear hr0_2 hc0_2
 have HR0_3 := Aside0.mk hr0_3
 have HC0_3 := Aside0.mk hc0_3
 clear hr0_3 hc0_3
 have HR0_5 := Aside0.mk hr0_5
 have HC0_5 := Aside0.mk hc0_5
 clear hr0_5 hc0_5
 have HB := Aside0.mk (Below.refl w.heap.size w)
 have H := h
 unfold impl_AbsOk.f at H
 clear h
 rcases sqI (a0_0 = true) with c2 | c2
 ·replace c2 := Bool.eq_false_iff.mpr c2
  subst c2
  have H1 : (if (l0_1.length : Int) = 0 then (if (l0_2.length : Int) = 0 then (if (l0_3.length : Int) = 0 then (if a0_4 = 0 then (some ((l0_5.length : Int) == 0)) else (some false)) else (some false)) else (some false)) else (some false)) = some r := by rw [if_neg (show ¬ (false = true) by decide)] at H; exact H
  clear H
  have H := H1
  clear H1
  replace H := sqi H
  rcases H with ⟨c73, H⟩ | ⟨c73, H⟩
  ·have c73b0 : ((l0_1.length : Int) == 0) = false := beq_eq_false_iff_ne.mpr c73
   have c73b1 : ((l0_1.length : Int) != 0) = true := bne_iff_ne.mpr c73
   have c73b2 : ¬ (l0_1 = []) := fun h_ => c73 (by rw [h_]; rfl)
   obtain rfl := Option.some.inj H
   go_enter Try.func30, Try.ntmps30
   go_wp2_with (first | ((with_reducible refine gate_dst (N := 1) rfl ?_); (try (refine gate_guard (by rfl) ?_; dsimp only)); refine sqx 1 #[.bool false, .slice A0_1 l0_1.length c0_1, .slice A0_2 l0_2.length c0_2, .slice A0_3 l0_3.length c0_3, .int .i64 a0_4, .slice A0_5 l0_5.length c0_5] 39 ?_; intro gb411 hg w85 hbox hb; have BK411 := Aside0.mk hbox; have GW411 := sqg HB hg; have GE411 := sqg HB hg; replace HB := sqs HB hb; clear hb hbox hg; obtain ⟨hcz86_0, hcz86_1, hcz86_2, hcz86_3, hcz86_4, hcz86_5, hfz86_0, hfz86_1, hfz86_2, hfz86_3, hfz86_4, hfz86_5⟩ := sqc6 BK411))
   go_ret
   exact sqe HB
  have c73b0 : ((l0_1.length : Int) == 0) = true := beq_iff_eq.mpr c73
  have c73b1 : ((l0_1.length : Int) != 0) = false := bne_eq_false_iff_eq.mpr c73
  clear c73
  replace H := sqi H
  rcases H with ⟨c74, H⟩ | ⟨c74, H⟩
  ·have c74b0 : ((l0_2.length : Int) == 0) = false := beq_eq_false_iff_ne.mpr c74
   have c74b1 : ((l0_2.length : Int) != 0) = true := bne_iff_ne.mpr c74
   have c74b2 : ¬ (l0_2 = []) := fun h_ => c74 (by rw [h_]; rfl)
   obtain rfl := Option.some.inj H
   go_enter Try.func30, Try.ntmps30
   go_wp2_with (first | ((with_reducible refine gate_dst (N := 1) rfl ?_); (try (refine gate_guard (by rfl) ?_; dsimp only)); refine sqx 1 #[.bool false, .slice A0_1 l0_1.length c0_1, .slice A0_2 l0_2.length c0_2, .slice A0_3 l0_3.length c0_3, .int .i64 a0_4, .slice A0_5 l0_5.length c0_5] 39 ?_; intro gb411 hg w83 hbox hb; have BK411 := Aside0.mk hbox; have GW411 := sqg HB hg; have GE411 := sqg HB hg; replace HB := sqs HB hb; clear hb hbox hg; obtain ⟨hcz84_0, hcz84_1, hcz84_2, hcz84_3, hcz84_4, hcz84_5, hfz84_0, hfz84_1, hfz84_2, hfz84_3, hfz84_4, hfz84_5⟩ := sqc6 BK411))
   go_ret
   exact sqe HB
  have c74b0 : ((l0_2.length : Int) == 0) = true := beq_iff_eq.mpr c74
  have c74b1 : ((l0_2.length : Int) != 0) = false := bne_eq_false_iff_eq.mpr c74
  clear c74
  replace H := sqi H
  rcases H with ⟨c75, H⟩ | ⟨c75, H⟩
  ·have c75b0 : ((l0_3.length : Int) == 0) = false := beq_eq_false_iff_ne.mpr c75
   have c75b1 : ((l0_3.length : Int) != 0) = true := bne_iff_ne.mpr c75
   have c75b2 : ¬ (l0_3 = []) := fun h_ => c75 (by rw [h_]; rfl)
   obtain rfl := Option.some.inj H
   go_enter Try.func30, Try.ntmps30
   go_wp2_with (first | ((with_reducible refine gate_dst (N := 1) rfl ?_); (try (refine gate_guard (by rfl) ?_; dsimp only)); refine sqx 1 #[.bool false, .slice A0_1 l0_1.length c0_1, .slice A0_2 l0_2.length c0_2, .slice A0_3 l0_3.length c0_3, .int .i64 a0_4, .slice A0_5 l0_5.length c0_5] 39 ?_; intro gb411 hg w81 hbox hb; have BK411 := Aside0.mk hbox; have GW411 := sqg HB hg; have GE411 := sqg HB hg; replace HB := sqs HB hb; clear hb hbox hg; obtain ⟨hcz82_0, hcz82_1, hcz82_2, hcz82_3, hcz82_4, hcz82_5, hfz82_0, hfz82_1, hfz82_2, hfz82_3, hfz82_4, hfz82_5⟩ := sqc6 BK411))
   go_ret
   exact sqe HB
  have c75b0 : ((l0_3.length : Int) == 0) = true := beq_iff_eq.mpr c75
  have c75b1 : ((l0_3.length : Int) != 0) = false := bne_eq_false_iff_eq.mpr c75
  clear c75
  replace H := sqi H
  rcases H with ⟨c76, H⟩ | ⟨c76, H⟩
  ·have c76b0 : (a0_4 == 0) = false := beq_eq_false_iff_ne.mpr c76
   have c76b1 : (a0_4 != 0) = true := bne_iff_ne.mpr c76
   obtain rfl := Option.some.inj H
   go_enter Try.func30, Try.ntmps30
   go_wp2_with (first | ((with_reducible refine gate_dst (N := 1) rfl ?_); (try (refine gate_guard (by rfl) ?_; dsimp only)); refine sqx 1 #[.bool false, .slice A0_1 l0_1.length c0_1, .slice A0_2 l0_2.length c0_2, .slice A0_3 l0_3.length c0_3, .int .i64 a0_4, .slice A0_5 l0_5.length c0_5] 39 ?_; intro gb411 hg w79 hbox hb; have BK411 := Aside0.mk hbox; have GW411 := sqg HB hg; have GE411 := sqg HB hg; replace HB := sqs HB hb; clear hb hbox hg; obtain ⟨hcz80_0, hcz80_1, hcz80_2, hcz80_3, hcz80_4, hcz80_5, hfz80_0, hfz80_1, hfz80_2, hfz80_3, hfz80_4, hfz80_5⟩ := sqc6 BK411))
   go_ret
   exact sqe HB
  have c76b0 : (a0_4 == 0) = true := beq_iff_eq.mpr c76
  have c76b1 : (a0_4 != 0) = false := bne_eq_false_iff_eq.mpr c76
  clear c76
  obtain rfl := Option.some.inj H
  go_enter Try.func30, Try.ntmps30
  go_wp2_with (first | ((with_reducible refine gate_dst (N := 1) rfl ?_); (try (refine gate_guard (by rfl) ?_; dsimp only)); refine sqx 1 #[.bool false, .slice A0_1 l0_1.length c0_1, .slice A0_2 l0_2.length c0_2, .slice A0_3 l0_3.length c0_3, .int .i64 a0_4, .slice A0_5 l0_5.length c0_5] 39 ?_; intro gb411 hg w77 hbox hb; have BK411 := Aside0.mk hbox; have GW411 := sqg HB hg; have GE411 := sqg HB hg; replace HB := sqs HB hb; clear hb hbox hg; obtain ⟨hcz78_0, hcz78_1, hcz78_2, hcz78_3, hcz78_4, hcz78_5, hfz78_0, hfz78_1, hfz78_2, hfz78_3, hfz78_4, hfz78_5⟩ := sqc6 BK411))
  go_ret
  exact sqe HB
 subst c2
 have H1 : (impl_AbsOk.l0 k l0_1 (l0_1.length : Int) 0 true l0_1 l0_2 l0_3 a0_4 l0_5) = some r := by rw [if_pos rfl] at H; exact H
 clear H
 have H := H1
 clear H1
 have H' := Aside0.mk H
 clear H
 go_enter Try.func30, Try.ntmps30
 go_wp2_with (first | ((with_reducible refine gate_dst (N := 1) rfl ?_); (try (refine gate_guard (by rfl) ?_; dsimp only)); refine sqx 1 #[.bool true, .slice A0_1 l0_1.length c0_1, .slice A0_2 l0_2.length c0_2, .slice A0_3 l0_3.length c0_3, .int .i64 a0_4, .slice A0_5 l0_5.length c0_5] 39 ?_; intro gb411 hg w3 hbox hb; have BK411 := Aside0.mk hbox; have GW411 := sqg HB hg; have GE411 := sqg HB hg; replace HB := sqs HB hb; clear hb hbox hg; obtain ⟨hcz4_0, hcz4_1, hcz4_2, hcz4_3, hcz4_4, hcz4_5, hfz4_0, hfz4_1, hfz4_2, hfz4_3, hfz4_4, hfz4_5⟩ := sqc6 BK411))
 go_loopg [44] k (fun kq v44 w' => ∃ (x44_1 : Int), v44 = .int .i64 x44_1 ∧ Aside0 (impl_AbsOk.l0 kq l0_1 (l0_1.length : Int) x44_1 true l0_1 l0_2 l0_3 a0_4 l0_5 = some r) ∧ Aside0 (kq ≤ k) ∧ Aside0 (w'.heap[gb411]? = some (.cells #[.bool true, (.slice A0_1 l0_1.length c0_1), (.slice A0_2 l0_2.length c0_2), (.slice A0_3 l0_3.length c0_3), .int .i64 a0_4, (.slice A0_5 l0_5.length c0_5)] 39 (0, 0))) ∧ Aside0 (Below w.heap.size w w'))
 case atStart => exact ⟨(0), (by first | rfl | (simp; done) | (simp [*]; done)), H', ⟨Nat.le_refl _⟩, sqk BK411, sqh HB⟩
 case round =>
  clear H'
  obtain ⟨x44_1, rfl, HA, HK1, BK411, HB⟩ := hrel
  cases gk with
  | zero => exact absurd HA.out (by simp [impl_AbsOk.l0])
  | succ k1 =>
   have H := HA.out
   clear HA
   simp only [impl_AbsOk.l0] at H
   replace H := sqj H
   rcases H with ⟨c5, H⟩ | ⟨c5, H⟩
   ·have c5b0 := decide_eq_true c5
    clear c5
    replace H := sqi H
    rcases H with ⟨c6, H⟩ | ⟨c6, H⟩
    ·exact absurd H (by simp)
    have c6b0 := decide_eq_true c6
    clear c6
    replace H := sqi H
    rcases H with ⟨c7, H⟩ | ⟨c7, H⟩
    ·exact absurd H (by simp)
    have c7b0 := decide_eq_true c7
    clear c7
    replace H := Option.bind_eq_some_iff.mp H
    obtain ⟨t414, A80, H⟩ := H
    try dsimp only at H
    have A8 := Aside0.mk A80
    clear A80
    by_cases c9 : t414 = true
    ·subst c9
     have H1 : (some false) = some r := by rw [if_pos rfl] at H; exact H
     clear H
     have H := H1
     clear H1
     obtain rfl := Option.some.inj H
     have p412 : 0 ≤ (x44_1 : Int) := sqd
     have q412 : x44_1 < (l0_1.length : Int) := sqd
     obtain ⟨ad412, e412, hx412_0, hx412_1, hx412_2, hx412_3⟩ := at_T60 HR0_1.out x44_1 p412 q412
     cases e412
     replace hx412_0 := sqa HB hx412_0
     replace hx412_1 := sqa HB hx412_1
     replace hx412_2 := sqa HB hx412_2
     replace hx412_3 := sqa HB hx412_3
     replace p412 := eq_true p412
     replace q412 := eq_true q412
     go_wp2_with (first | ((with_reducible refine gate_dst (N := 4) rfl ?_); (try (refine gate_guard (by rfl) ?_; dsimp only)); refine sqx 4 #[.int .i64 0, .int .i64 0, .int .i64 0, .int .i64 0] 60 ?_; intro gb413 hg w10 hbox hb; have BK413 := Aside0.mk hbox; have GW413 := sqg HB hg; have GE413 := sqg HB hg; have NB411_413 := sqn BK411 hg; have NB413_411 := sqm BK411 hg; replace BK411 := sqb BK411 hb; replace HB := sqs HB hb; clear hb hbox hg; have hnb11 := NB413_411.out; have hnc11 := NB411_413.out; obtain ⟨hcz12_0, hcz12_1, hcz12_2, hcz12_3, hfz12_0, hfz12_1, hfz12_2, hfz12_3⟩ := sqc4 BK413) | ((with_reducible refine gate_callee (f := 56) rfl ?_); refine sqL (some 49) Try.func56 #[.agg #[.int .i64 ((rd_T60 l0_1 x44_1).f0), .int .i64 ((rd_T60 l0_1 x44_1).f1), .int .i64 ((rd_T60 l0_1 x44_1).f2), .int .i64 ((rd_T60 l0_1 x44_1).f3)]] ?_; (with_reducible refine (impl_Val_none.calls ((rd_T60 l0_1 x44_1).f0) ((rd_T60 l0_1 x44_1).f1) ((rd_T60 l0_1 x44_1).f2) ((rd_T60 l0_1 x44_1).f3) true _ A8.out).mono ?_); rintro e w13 ⟨rfl, hb⟩; refine ⟨_, rfl, ?_⟩; have n0_ := sqbb BK411 hb; have n1_ := Aside0.mk (blk_below (g := gb413) (o := .cells #[.int .i64 ((rd_T60 l0_1 x44_1).f0), .int .i64 ((rd_T60 l0_1 x44_1).f1), .int .i64 ((rd_T60 l0_1 x44_1).f2), .int .i64 ((rd_T60 l0_1 x44_1).f3)] 60 (0, 0)) (by refine sqt ?_; refine blk_put (cs := #[.int .i64 ((rd_T60 l0_1 x44_1).f0), .int .i64 ((rd_T60 l0_1 x44_1).f1), .int .i64 ((rd_T60 l0_1 x44_1).f2), .int .i64 0]) ?_ 3 _ rfl; refine sqt ?_; refine blk_put (cs := #[.int .i64 ((rd_T60 l0_1 x44_1).f0), .int .i64 ((rd_T60 l0_1 x44_1).f1), .int .i64 0, .int .i64 0]) ?_ 2 _ rfl; refine sqt ?_; refine blk_put (cs := #[.int .i64 ((rd_T60 l0_1 x44_1).f0), .int .i64 0, .int .i64 0, .int .i64 0]) ?_ 1 _ rfl; refine sqt ?_; refine blk_put (cs := #[.int .i64 0, .int .i64 0, .int .i64 0, .int .i64 0]) ?_ 0 _ rfl; refine sqt ?_; exact BK413.out) hb); have n2_ := sqs HB hb; clear BK411; clear BK413; clear HB; have BK411 := n0_; have BK413 := n1_; have HB := n2_; clear n0_ n1_ n2_; (try clear hb)))
     go_ret
     exact sqe HB
    replace c9 := Bool.eq_false_iff.mpr c9
    subst c9
    have H1 : ((impl_ValOk.f k1 ((rd_T60 l0_1 x44_1).f0) ((rd_T60 l0_1 x44_1).f1) ((rd_T60 l0_1 x44_1).f2) ((rd_T60 l0_1 x44_1).f3)).bind fun t415 => (if t415 = true then (impl_AbsOk.l0 k1 l0_1 (l0_1.length : Int) (wrap64 (x44_1 + 1)) true l0_1 l0_2 l0_3 a0_4 l0_5) else (some false))) = some r := by rw [if_neg (show ¬ (false = true) by decide)] at H; exact H
    clear H
    have H := H1
    clear H1
    replace H := Option.bind_eq_some_iff.mp H
    obtain ⟨t415, A140, H⟩ := H
    try dsimp only at H
    have A14 := Aside0.mk A140
    clear A140
    rcases sqI (t415 = true) with c15 | c15
    ·replace c15 := Bool.eq_false_iff.mpr c15
     subst c15
     have H1 : (some false) = some r := by rw [if_neg (show ¬ (false = true) by decide)] at H; exact H
     clear H
     have H := H1
     clear H1
     obtain rfl := Option.some.inj H
     have p412 : 0 ≤ (x44_1 : Int) := sqd
     have q412 : x44_1 < (l0_1.length : Int) := sqd
     obtain ⟨ad412, e412, hx412_0, hx412_1, hx412_2, hx412_3⟩ := at_T60 HR0_1.out x44_1 p412 q412
     cases e412
     replace hx412_0 := sqa HB hx412_0
     replace hx412_1 := sqa HB hx412_1
     replace hx412_2 := sqa HB hx412_2
     replace hx412_3 := sqa HB hx412_3
     replace p412 := eq_true p412
     replace q412 := eq_true q412
     go_wp2_with (first | ((with_reducible refine gate_dst (N := 4) rfl ?_); (try (refine gate_guard (by rfl) ?_; dsimp only)); refine sqx 4 #[.int .i64 0, .int .i64 0, .int .i64 0, .int .i64 0] 60 ?_; intro gb413 hg w22 hbox hb; have BK413 := Aside0.mk hbox; have GW413 := sqg HB hg; have GE413 := sqg HB hg; have NB411_413 := sqn BK411 hg; have NB413_411 := sqm BK411 hg; replace BK411 := sqb BK411 hb; replace HB := sqs HB hb; clear hb hbox hg; have hnb23 := NB413_411.out; have hnc23 := NB411_413.out; obtain ⟨hcz24_0, hcz24_1, hcz24_2, hcz24_3, hfz24_0, hfz24_1, hfz24_2, hfz24_3⟩ := sqc4 BK413) | ((with_reducible refine gate_callee (f := 56) rfl ?_); refine sqL (some 49) Try.func56 #[.agg #[.int .i64 ((rd_T60 l0_1 x44_1).f0), .int .i64 ((rd_T60 l0_1 x44_1).f1), .int .i64 ((rd_T60 l0_1 x44_1).f2), .int .i64 ((rd_T60 l0_1 x44_1).f3)]] ?_; (with_reducible refine (impl_Val_none.calls ((rd_T60 l0_1 x44_1).f0) ((rd_T60 l0_1 x44_1).f1) ((rd_T60 l0_1 x44_1).f2) ((rd_T60 l0_1 x44_1).f3) false _ A8.out).mono ?_); rintro e w25 ⟨rfl, hb⟩; refine ⟨_, rfl, ?_⟩; have n0_ := sqbb BK411 hb; have n1_ := Aside0.mk (blk_below (g := gb413) (o := .cells #[.int .i64 ((rd_T60 l0_1 x44_1).f0), .int .i64 ((rd_T60 l0_1 x44_1).f1), .int .i64 ((rd_T60 l0_1 x44_1).f2), .int .i64 ((rd_T60 l0_1 x44_1).f3)] 60 (0, 0)) (by refine sqt ?_; refine blk_put (cs := #[.int .i64 ((rd_T60 l0_1 x44_1).f0), .int .i64 ((rd_T60 l0_1 x44_1).f1), .int .i64 ((rd_T60 l0_1 x44_1).f2), .int .i64 0]) ?_ 3 _ rfl; refine sqt ?_; refine blk_put (cs := #[.int .i64 ((rd_T60 l0_1 x44_1).f0), .int .i64 ((rd_T60 l0_1 x44_1).f1), .int .i64 0, .int .i64 0]) ?_ 2 _ rfl; refine sqt ?_; refine blk_put (cs := #[.int .i64 ((rd_T60 l0_1 x44_1).f0), .int .i64 0, .int .i64 0, .int .i64 0]) ?_ 1 _ rfl; refine sqt ?_; refine blk_put (cs := #[.int .i64 0, .int .i64 0, .int .i64 0, .int .i64 0]) ?_ 0 _ rfl; refine sqt ?_; exact BK413.out) hb); have n2_ := sqs HB hb; clear BK411; clear BK413; clear HB; have BK411 := n0_; have BK413 := n1_; have HB := n2_; clear n0_ n1_ n2_; (try clear hb); obtain ⟨hcz26_0, hcz26_1, hcz26_2, hcz26_3, hfz26_0, hfz26_1, hfz26_2, hfz26_3⟩ := sqc4 BK413) | (go_at_call 57; (with_reducible refine (impl_ValOk.calls k1 ((rd_T60 l0_1 x44_1).f0) ((rd_T60 l0_1 x44_1).f1) ((rd_T60 l0_1 x44_1).f2) ((rd_T60 l0_1 x44_1).f3) false _ A14.out).mono ?_); rintro e w27 ⟨rfl, hb⟩; refine sqM2 BK411 BK413 hb ?_; clear BK411 BK413; intro BK411 BK413; replace HB := sqs HB hb; (try clear hb)))
     go_ret
     exact sqe HB
    subst c15
    have H1 : (impl_AbsOk.l0 k1 l0_1 (l0_1.length : Int) (wrap64 (x44_1 + 1)) true l0_1 l0_2 l0_3 a0_4 l0_5) = some r := by rw [if_pos rfl] at H; exact H
    clear H
    have H := H1
    clear H1
    have H' := Aside0.mk H
    clear H
    have p412 : 0 ≤ (x44_1 : Int) := sqd
    have q412 : x44_1 < (l0_1.length : Int) := sqd
    obtain ⟨ad412, e412, hx412_0, hx412_1, hx412_2, hx412_3⟩ := at_T60 HR0_1.out x44_1 p412 q412
    cases e412
    replace hx412_0 := sqa HB hx412_0
    replace hx412_1 := sqa HB hx412_1
    replace hx412_2 := sqa HB hx412_2
    replace hx412_3 := sqa HB hx412_3
    replace p412 := eq_true p412
    replace q412 := eq_true q412
    go_wp2_with (first | ((with_reducible refine gate_dst (N := 4) rfl ?_); (try (refine gate_guard (by rfl) ?_; dsimp only)); refine sqx 4 #[.int .i64 0, .int .i64 0, .int .i64 0, .int .i64 0] 60 ?_; intro gb413 hg w16 hbox hb; have BK413 := Aside0.mk hbox; have GW413 := sqg HB hg; have GE413 := sqg HB hg; have NB411_413 := sqn BK411 hg; have NB413_411 := sqm BK411 hg; replace BK411 := sqb BK411 hb; replace HB := sqs HB hb; clear hb hbox hg; have hnb17 := NB413_411.out; have hnc17 := NB411_413.out; obtain ⟨hcz18_0, hcz18_1, hcz18_2, hcz18_3, hfz18_0, hfz18_1, hfz18_2, hfz18_3⟩ := sqc4 BK413) | ((with_reducible refine gate_callee (f := 56) rfl ?_); refine sqL (some 49) Try.func56 #[.agg #[.int .i64 ((rd_T60 l0_1 x44_1).f0), .int .i64 ((rd_T60 l0_1 x44_1).f1), .int .i64 ((rd_T60 l0_1 x44_1).f2), .int .i64 ((rd_T60 l0_1 x44_1).f3)]] ?_; (with_reducible refine (impl_Val_none.calls ((rd_T60 l0_1 x44_1).f0) ((rd_T60 l0_1 x44_1).f1) ((rd_T60 l0_1 x44_1).f2) ((rd_T60 l0_1 x44_1).f3) false _ A8.out).mono ?_); rintro e w19 ⟨rfl, hb⟩; refine ⟨_, rfl, ?_⟩; have n0_ := sqbb BK411 hb; have n1_ := Aside0.mk (blk_below (g := gb413) (o := .cells #[.int .i64 ((rd_T60 l0_1 x44_1).f0), .int .i64 ((rd_T60 l0_1 x44_1).f1), .int .i64 ((rd_T60 l0_1 x44_1).f2), .int .i64 ((rd_T60 l0_1 x44_1).f3)] 60 (0, 0)) (by refine sqt ?_; refine blk_put (cs := #[.int .i64 ((rd_T60 l0_1 x44_1).f0), .int .i64 ((rd_T60 l0_1 x44_1).f1), .int .i64 ((rd_T60 l0_1 x44_1).f2), .int .i64 0]) ?_ 3 _ rfl; refine sqt ?_; refine blk_put (cs := #[.int .i64 ((rd_T60 l0_1 x44_1).f0), .int .i64 ((rd_T60 l0_1 x44_1).f1), .int .i64 0, .int .i64 0]) ?_ 2 _ rfl; refine sqt ?_; refine blk_put (cs := #[.int .i64 ((rd_T60 l0_1 x44_1).f0), .int .i64 0, .int .i64 0, .int .i64 0]) ?_ 1 _ rfl; refine sqt ?_; refine blk_put (cs := #[.int .i64 0, .int .i64 0, .int .i64 0, .int .i64 0]) ?_ 0 _ rfl; refine sqt ?_; exact BK413.out) hb); have n2_ := sqs HB hb; clear BK411; clear BK413; clear HB; have BK411 := n0_; have BK413 := n1_; have HB := n2_; clear n0_ n1_ n2_; (try clear hb); obtain ⟨hcz20_0, hcz20_1, hcz20_2, hcz20_3, hfz20_0, hfz20_1, hfz20_2, hfz20_3⟩ := sqc4 BK413) | (go_at_call 57; (with_reducible refine (impl_ValOk.calls k1 ((rd_T60 l0_1 x44_1).f0) ((rd_T60 l0_1 x44_1).f1) ((rd_T60 l0_1 x44_1).f2) ((rd_T60 l0_1 x44_1).f3) true _ A14.out).mono ?_); rintro e w21 ⟨rfl, hb⟩; refine sqM2 BK411 BK413 hb ?_; clear BK411 BK413; intro BK411 BK413; replace HB := sqs HB hb; (try clear hb)))
    go_roundg k1
    case measure => have := HK1.out; omega
    case rel => exact ⟨(wrap64 (x44_1 + 1)), (by first | rfl | (simp; done) | (simp [*]; done)), H', ⟨by have := HK1.out; omega⟩, sqk BK411, sqh HB⟩
   have c5b0 := decide_eq_false c5
   clear c5
   have H' := Aside0.mk H
   clear H
   obtain ⟨hcz28_0, hcz28_1, hcz28_2, hcz28_3, hcz28_4, hcz28_5, hfz28_0, hfz28_1, hfz28_2, hfz28_3, hfz28_4, hfz28_5⟩ := sqc6 BK411
   go_wp2
   go_loopg [59] k1 (fun kq v59 w' => ∃ (x59_2 : Int), v59 = .int .i64 x59_2 ∧ Aside0 (impl_AbsOk.l1 kq l0_3 (l0_3.length : Int) x59_2 true l0_1 l0_2 l0_3 a0_4 l0_5 = some r) ∧ Aside0 (kq ≤ k1) ∧ Aside0 (w'.heap[gb411]? = some (.cells #[.bool true, (.slice A0_1 l0_1.length c0_1), (.slice A0_2 l0_2.length c0_2), (.slice A0_3 l0_3.length c0_3), .int .i64 a0_4, (.slice A0_5 l0_5.length c0_5)] 39 (0, 0))) ∧ Aside0 (Below w.heap.size w w'))
   case atStart => exact ⟨(0), (by first | rfl | (simp; done) | (simp [*]; done)), H', ⟨Nat.le_refl _⟩, sqk BK411, sqh HB⟩
   case round =>
    clear H'
    obtain ⟨x59_2, rfl, HA, HK2, BK411, HB⟩ := hrel
    cases gk with
    | zero => exact absurd HA.out (by simp [impl_AbsOk.l1])
    | succ k2 =>
     have H := HA.out
     clear HA
     simp only [impl_AbsOk.l1] at H
     replace H := sqj H
     rcases H with ⟨c29, H⟩ | ⟨c29, H⟩
     ·have c29b0 := decide_eq_true c29
      clear c29
      replace H := sqi H
      rcases H with ⟨c30, H⟩ | ⟨c30, H⟩
      ·exact absurd H (by simp)
      have c30b0 := decide_eq_true c30
      clear c30
      replace H := sqi H
      rcases H with ⟨c31, H⟩ | ⟨c31, H⟩
      ·exact absurd H (by simp)
      have c31b0 := decide_eq_true c31
      clear c31
      replace H := Option.bind_eq_some_iff.mp H
      obtain ⟨t418, A320, H⟩ := H
      try dsimp only at H
      have A32 := Aside0.mk A320
      clear A320
      by_cases c33 : t418 = true
      ·subst c33
       have H1 : (some false) = some r := by rw [if_pos rfl] at H; exact H
       clear H
       have H := H1
       clear H1
       obtain rfl := Option.some.inj H
       have p416 : 0 ≤ (x59_2 : Int) := sqd
       have q416 : x59_2 < (l0_3.length : Int) := sqd
       obtain ⟨ad416, e416, hx416_0, hx416_1, hx416_2, hx416_3⟩ := at_T60 HR0_3.out x59_2 p416 q416
       cases e416
       replace hx416_0 := sqa HB hx416_0
       replace hx416_1 := sqa HB hx416_1
       replace hx416_2 := sqa HB hx416_2
       replace hx416_3 := sqa HB hx416_3
       replace p416 := eq_true p416
       replace q416 := eq_true q416
       go_wp2_with (first | ((with_reducible refine gate_dst (N := 6) rfl ?_); (try (refine gate_guard (by rfl) ?_; dsimp only)); refine sqx 6 #[.int .i64 0, .int .i64 0, .int .i64 0, .int .i64 0] 60 ?_; intro gb417 hg w34 hbox hb; have BK417 := Aside0.mk hbox; have GW417 := sqg HB hg; have GE417 := sqg HB hg; have NB411_417 := sqn BK411 hg; have NB417_411 := sqm BK411 hg; replace BK411 := sqb BK411 hb; replace HB := sqs HB hb; clear hb hbox hg; have hnb35 := NB417_411.out; have hnc35 := NB411_417.out; obtain ⟨hcz36_0, hcz36_1, hcz36_2, hcz36_3, hfz36_0, hfz36_1, hfz36_2, hfz36_3⟩ := sqc4 BK417) | ((with_reducible refine gate_callee (f := 56) rfl ?_); refine sqL (some 64) Try.func56 #[.agg #[.int .i64 ((rd_T60 l0_3 x59_2).f0), .int .i64 ((rd_T60 l0_3 x59_2).f1), .int .i64 ((rd_T60 l0_3 x59_2).f2), .int .i64 ((rd_T60 l0_3 x59_2).f3)]] ?_; (with_reducible refine (impl_Val_none.calls ((rd_T60 l0_3 x59_2).f0) ((rd_T60 l0_3 x59_2).f1) ((rd_T60 l0_3 x59_2).f2) ((rd_T60 l0_3 x59_2).f3) true _ A32.out).mono ?_); rintro e w37 ⟨rfl, hb⟩; refine ⟨_, rfl, ?_⟩; have n0_ := sqbb BK411 hb; have n1_ := Aside0.mk (blk_below (g := gb417) (o := .cells #[.int .i64 ((rd_T60 l0_3 x59_2).f0), .int .i64 ((rd_T60 l0_3 x59_2).f1), .int .i64 ((rd_T60 l0_3 x59_2).f2), .int .i64 ((rd_T60 l0_3 x59_2).f3)] 60 (0, 0)) (by refine sqt ?_; refine blk_put (cs := #[.int .i64 ((rd_T60 l0_3 x59_2).f0), .int .i64 ((rd_T60 l0_3 x59_2).f1), .int .i64 ((rd_T60 l0_3 x59_2).f2), .int .i64 0]) ?_ 3 _ rfl; refine sqt ?_; refine blk_put (cs := #[.int .i64 ((rd_T60 l0_3 x59_2).f0), .int .i64 ((rd_T60 l0_3 x59_2).f1), .int .i64 0, .int .i64 0]) ?_ 2 _ rfl; refine sqt ?_; refine blk_put (cs := #[.int .i64 ((rd_T60 l0_3 x59_2).f0), .int .i64 0, .int .i64 0, .int .i64 0]) ?_ 1 _ rfl; refine sqt ?_; refine blk_put (cs := #[.int .i64 0, .int .i64 0, .int .i64 0, .int .i64 0]) ?_ 0 _ rfl; refine sqt ?_; exact BK417.out) hb); have n2_ := sqs HB hb; clear BK411; clear BK417; clear HB; have BK411 := n0_; have BK417 := n1_; have HB := n2_; clear n0_ n1_ n2_; (try clear hb)))
       go_ret
       exact sqe HB
      replace c33 := Bool.eq_false_iff.mpr c33
      subst c33
      have H1 : ((impl_ValOk.f k2 ((rd_T60 l0_3 x59_2).f0) ((rd_T60 l0_3 x59_2).f1) ((rd_T60 l0_3 x59_2).f2) ((rd_T60 l0_3 x59_2).f3)).bind fun t419 => (if t419 = true then (impl_AbsOk.l1 k2 l0_3 (l0_3.length : Int) (wrap64 (x59_2 + 1)) true l0_1 l0_2 l0_3 a0_4 l0_5) else (some false))) = some r := by rw [if_neg (show ¬ (false = true) by decide)] at H; exact H
      clear H
      have H := H1
      clear H1
      replace H := Option.bind_eq_some_iff.mp H
      obtain ⟨t419, A380, H⟩ := H
      try dsimp only at H
      have A38 := Aside0.mk A380
      clear A380
      rcases sqI (t419 = true) with c39 | c39
      ·replace c39 := Bool.eq_false_iff.mpr c39
       subst c39
       have H1 : (some false) = some r := by rw [if_neg (show ¬ (false = true) by decide)] at H; exact H
       clear H
       have H := H1
       clear H1
       obtain rfl := Option.some.inj H
       have p416 : 0 ≤ (x59_2 : Int) := sqd
       have q416 : x59_2 < (l0_3.length : Int) := sqd
       obtain ⟨ad416, e416, hx416_0, hx416_1, hx416_2, hx416_3⟩ := at_T60 HR0_3.out x59_2 p416 q416
       cases e416
       replace hx416_0 := sqa HB hx416_0
       replace hx416_1 := sqa HB hx416_1
       replace hx416_2 := sqa HB hx416_2
       replace hx416_3 := sqa HB hx416_3
       replace p416 := eq_true p416
       replace q416 := eq_true q416
       go_wp2_with (first | ((with_reducible refine gate_dst (N := 6) rfl ?_); (try (refine gate_guard (by rfl) ?_; dsimp only)); refine sqx 6 #[.int .i64 0, .int .i64 0, .int .i64 0, .int .i64 0] 60 ?_; intro gb417 hg w46 hbox hb; have BK417 := Aside0.mk hbox; have GW417 := sqg HB hg; have GE417 := sqg HB hg; have NB411_417 := sqn BK411 hg; have NB417_411 := sqm BK411 hg; replace BK411 := sqb BK411 hb; replace HB := sqs HB hb; clear hb hbox hg; have hnb47 := NB417_411.out; have hnc47 := NB411_417.out; obtain ⟨hcz48_0, hcz48_1, hcz48_2, hcz48_3, hfz48_0, hfz48_1, hfz48_2, hfz48_3⟩ := sqc4 BK417) | ((with_reducible refine gate_callee (f := 56) rfl ?_); refine sqL (some 64) Try.func56 #[.agg #[.int .i64 ((rd_T60 l0_3 x59_2).f0), .int .i64 ((rd_T60 l0_3 x59_2).f1), .int .i64 ((rd_T60 l0_3 x59_2).f2), .int .i64 ((rd_T60 l0_3 x59_2).f3)]] ?_; (with_reducible refine (impl_Val_none.calls ((rd_T60 l0_3 x59_2).f0) ((rd_T60 l0_3 x59_2).f1) ((rd_T60 l0_3 x59_2).f2) ((rd_T60 l0_3 x59_2).f3) false _ A32.out).mono ?_); rintro e w49 ⟨rfl, hb⟩; refine ⟨_, rfl, ?_⟩; have n0_ := sqbb BK411 hb; have n1_ := Aside0.mk (blk_below (g := gb417) (o := .cells #[.int .i64 ((rd_T60 l0_3 x59_2).f0), .int .i64 ((rd_T60 l0_3 x59_2).f1), .int .i64 ((rd_T60 l0_3 x59_2).f2), .int .i64 ((rd_T60 l0_3 x59_2).f3)] 60 (0, 0)) (by refine sqt ?_; refine blk_put (cs := #[.int .i64 ((rd_T60 l0_3 x59_2).f0), .int .i64 ((rd_T60 l0_3 x59_2).f1), .int .i64 ((rd_T60 l0_3 x59_2).f2), .int .i64 0]) ?_ 3 _ rfl; refine sqt ?_; refine blk_put (cs := #[.int .i64 ((rd_T60 l0_3 x59_2).f0), .int .i64 ((rd_T60 l0_3 x59_2).f1), .int .i64 0, .int .i64 0]) ?_ 2 _ rfl; refine sqt ?_; refine blk_put (cs := #[.int .i64 ((rd_T60 l0_3 x59_2).f0), .int .i64 0, .int .i64 0, .int .i64 0]) ?_ 1 _ rfl; refine sqt ?_; refine blk_put (cs := #[.int .i64 0, .int .i64 0, .int .i64 0, .int .i64 0]) ?_ 0 _ rfl; refine sqt ?_; exact BK417.out) hb); have n2_ := sqs HB hb; clear BK411; clear BK417; clear HB; have BK411 := n0_; have BK417 := n1_; have HB := n2_; clear n0_ n1_ n2_; (try clear hb); obtain ⟨hcz50_0, hcz50_1, hcz50_2, hcz50_3, hfz50_0, hfz50_1, hfz50_2, hfz50_3⟩ := sqc4 BK417) | (go_at_call 57; (with_reducible refine (impl_ValOk.calls k2 ((rd_T60 l0_3 x59_2).f0) ((rd_T60 l0_3 x59_2).f1) ((rd_T60 l0_3 x59_2).f2) ((rd_T60 l0_3 x59_2).f3) false _ A38.out).mono ?_); rintro e w51 ⟨rfl, hb⟩; refine sqM2 BK411 BK417 hb ?_; clear BK411 BK417; intro BK411 BK417; replace HB := sqs HB hb; (try clear hb)))
       go_ret
       exact sqe HB
      subst c39
      have H1 : (impl_AbsOk.l1 k2 l0_3 (l0_3.length : Int) (wrap64 (x59_2 + 1)) true l0_1 l0_2 l0_3 a0_4 l0_5) = some r := by rw [if_pos rfl] at H; exact H
      clear H
      have H := H1
      clear H1
      have H' := Aside0.mk H
      clear H
      have p416 : 0 ≤ (x59_2 : Int) := sqd
      have q416 : x59_2 < (l0_3.length : Int) := sqd
      obtain ⟨ad416, e416, hx416_0, hx416_1, hx416_2, hx416_3⟩ := at_T60 HR0_3.out x59_2 p416 q416
      cases e416
      replace hx416_0 := sqa HB hx416_0
      replace hx416_1 := sqa HB hx416_1
      replace hx416_2 := sqa HB hx416_2
      replace hx416_3 := sqa HB hx416_3
      replace p416 := eq_true p416
      replace q416 := eq_true q416
      go_wp2_with (first | ((with_reducible refine gate_dst (N := 6) rfl ?_); (try (refine gate_guard (by rfl) ?_; dsimp only)); refine sqx 6 #[.int .i64 0, .int .i64 0, .int .i64 0, .int .i64 0] 60 ?_; intro gb417 hg w40 hbox hb; have BK417 := Aside0.mk hbox; have GW417 := sqg HB hg; have GE417 := sqg HB hg; have NB411_417 := sqn BK411 hg; have NB417_411 := sqm BK411 hg; replace BK411 := sqb BK411 hb; replace HB := sqs HB hb; clear hb hbox hg; have hnb41 := NB417_411.out; have hnc41 := NB411_417.out; obtain ⟨hcz42_0, hcz42_1, hcz42_2, hcz42_3, hfz42_0, hfz42_1, hfz42_2, hfz42_3⟩ := sqc4 BK417) | ((with_reducible refine gate_callee (f := 56) rfl ?_); refine sqL (some 64) Try.func56 #[.agg #[.int .i64 ((rd_T60 l0_3 x59_2).f0), .int .i64 ((rd_T60 l0_3 x59_2).f1), .int .i64 ((rd_T60 l0_3 x59_2).f2), .int .i64 ((rd_T60 l0_3 x59_2).f3)]] ?_; (with_reducible refine (impl_Val_none.calls ((rd_T60 l0_3 x59_2).f0) ((rd_T60 l0_3 x59_2).f1) ((rd_T60 l0_3 x59_2).f2) ((rd_T60 l0_3 x59_2).f3) false _ A32.out).mono ?_); rintro e w43 ⟨rfl, hb⟩; refine ⟨_, rfl, ?_⟩; have n0_ := sqbb BK411 hb; have n1_ := Aside0.mk (blk_below (g := gb417) (o := .cells #[.int .i64 ((rd_T60 l0_3 x59_2).f0), .int .i64 ((rd_T60 l0_3 x59_2).f1), .int .i64 ((rd_T60 l0_3 x59_2).f2), .int .i64 ((rd_T60 l0_3 x59_2).f3)] 60 (0, 0)) (by refine sqt ?_; refine blk_put (cs := #[.int .i64 ((rd_T60 l0_3 x59_2).f0), .int .i64 ((rd_T60 l0_3 x59_2).f1), .int .i64 ((rd_T60 l0_3 x59_2).f2), .int .i64 0]) ?_ 3 _ rfl; refine sqt ?_; refine blk_put (cs := #[.int .i64 ((rd_T60 l0_3 x59_2).f0), .int .i64 ((rd_T60 l0_3 x59_2).f1), .int .i64 0, .int .i64 0]) ?_ 2 _ rfl; refine sqt ?_; refine blk_put (cs := #[.int .i64 ((rd_T60 l0_3 x59_2).f0), .int .i64 0, .int .i64 0, .int .i64 0]) ?_ 1 _ rfl; refine sqt ?_; refine blk_put (cs := #[.int .i64 0, .int .i64 0, .int .i64 0, .int .i64 0]) ?_ 0 _ rfl; refine sqt ?_; exact BK417.out) hb); have n2_ := sqs HB hb; clear BK411; clear BK417; clear HB; have BK411 := n0_; have BK417 := n1_; have HB := n2_; clear n0_ n1_ n2_; (try clear hb); obtain ⟨hcz44_0, hcz44_1, hcz44_2, hcz44_3, hfz44_0, hfz44_1, hfz44_2, hfz44_3⟩ := sqc4 BK417) | (go_at_call 57; (with_reducible refine (impl_ValOk.calls k2 ((rd_T60 l0_3 x59_2).f0) ((rd_T60 l0_3 x59_2).f1) ((rd_T60 l0_3 x59_2).f2) ((rd_T60 l0_3 x59_2).f3) true _ A38.out).mono ?_); rintro e w45 ⟨rfl, hb⟩; refine sqM2 BK411 BK417 hb ?_; clear BK411 BK417; intro BK411 BK417; replace HB := sqs HB hb; (try clear hb)))
      go_roundg k2
      case measure => have := HK1.out; have := HK2.out; omega
      case rel => exact ⟨(wrap64 (x59_2 + 1)), (by first | rfl | (simp; done) | (simp [*]; done)), H', ⟨by have := HK1.out; have := HK2.out; omega⟩, sqk BK411, sqh HB⟩
     have c29b0 := decide_eq_false c29
     clear c29
     have H' := Aside0.mk H
     clear H
     obtain ⟨hcz52_0, hcz52_1, hcz52_2, hcz52_3, hcz52_4, hcz52_5, hfz52_0, hfz52_1, hfz52_2, hfz52_3, hfz52_4, hfz52_5⟩ := sqc6 BK411
     go_wp2
     go_loopg [74] k2 (fun kq v74 w' => ∃ (x74_3 : Int), v74 = .int .i64 x74_3 ∧ Aside0 (impl_AbsOk.l2 kq l0_2 (l0_2.length : Int) x74_3 true l0_1 l0_2 l0_3 a0_4 l0_5 = some r) ∧ Aside0 (kq ≤ k2) ∧ Aside0 (w'.heap[gb411]? = some (.cells #[.bool true, (.slice A0_1 l0_1.length c0_1), (.slice A0_2 l0_2.length c0_2), (.slice A0_3 l0_3.length c0_3), .int .i64 a0_4, (.slice A0_5 l0_5.length c0_5)] 39 (0, 0))) ∧ Aside0 (Below w.heap.size w w'))
     case atStart => exact ⟨(0), (by first | rfl | (simp; done) | (simp [*]; done)), H', ⟨Nat.le_refl _⟩, sqk BK411, sqh HB⟩
     case round =>
      clear H'
      obtain ⟨x74_3, rfl, HA, HK3, BK411, HB⟩ := hrel
      cases gk with
      | zero => exact absurd HA.out (by simp [impl_AbsOk.l2])
      | succ k3 =>
       have H := HA.out
       clear HA
       simp only [impl_AbsOk.l2] at H
       replace H := sqi H
       rcases H with ⟨c53, H⟩ | ⟨c53, H⟩
       ·have c53b0 := decide_eq_false c53
        clear c53
        replace H := Option.bind_eq_some_iff.mp H
        obtain ⟨t423, A660, H⟩ := H
        try dsimp only at H
        have A66 := Aside0.mk A660
        clear A660
        rcases sqI (t423 = true) with c67 | c67
        ·replace c67 := Bool.eq_false_iff.mpr c67
         subst c67
         have H1 : (some false) = some r := by rw [if_neg (show ¬ (false = true) by decide)] at H; exact H
         clear H
         have H := H1
         clear H1
         obtain rfl := Option.some.inj H
         obtain ⟨hcz71_0, hcz71_1, hcz71_2, hcz71_3, hcz71_4, hcz71_5, hfz71_0, hfz71_1, hfz71_2, hfz71_3, hfz71_4, hfz71_5⟩ := sqc6 BK411
         go_wp2_with (first | ((with_reducible refine gate_callee (f := 59) rfl ?_); refine sqL (some 84) Try.func59 #[.agg #[.int .i64 a0_4, .slice A0_5 l0_5.length c0_5]] ?_; (with_reducible refine (impl_GapsOk.calls k3 a0_4 _ _ l0_5 false _ ?side1 ?side2 A66.out).mono ?_); (case side1 => exact sqC (Kd.C_below HR0_5.out HB.out)); (case side2 => exact HC0_5.out); rintro e w72 ⟨rfl, hb⟩; refine ⟨_, rfl, ?_⟩; replace BK411 := sqb BK411 hb; replace HB := sqs HB hb; (try clear hb)))
         go_ret
         exact sqe HB
        subst c67
        have H1 : (some (a0_4 == (l0_1.length : Int))) = some r := by rw [if_pos rfl] at H; exact H
        clear H
        have H := H1
        clear H1
        obtain rfl := Option.some.inj H
        obtain ⟨hcz68_0, hcz68_1, hcz68_2, hcz68_3, hcz68_4, hcz68_5, hfz68_0, hfz68_1, hfz68_2, hfz68_3, hfz68_4, hfz68_5⟩ := sqc6 BK411
        go_wp2_with (first | ((with_reducible refine gate_callee (f := 59) rfl ?_); refine sqL (some 84) Try.func59 #[.agg #[.int .i64 a0_4, .slice A0_5 l0_5.length c0_5]] ?_; (with_reducible refine (impl_GapsOk.calls k3 a0_4 _ _ l0_5 true _ ?side1 ?side2 A66.out).mono ?_); (case side1 => exact sqC (Kd.C_below HR0_5.out HB.out)); (case side2 => exact HC0_5.out); rintro e w69 ⟨rfl, hb⟩; refine ⟨_, rfl, ?_⟩; replace BK411 := sqb BK411 hb; replace HB := sqs HB hb; (try clear hb); obtain ⟨hcz70_0, hcz70_1, hcz70_2, hcz70_3, hcz70_4, hcz70_5, hfz70_0, hfz70_1, hfz70_2, hfz70_3, hfz70_4, hfz70_5⟩ := sqc6 BK411))
        go_ret
        exact sqe HB
       have c53b0 := decide_eq_true c53
       clear c53
       replace H := sqi H
       rcases H with ⟨c54, H⟩ | ⟨c54, H⟩
       ·exact absurd H (by simp)
       have c54b0 := decide_eq_true c54
       clear c54
       replace H := sqi H
       rcases H with ⟨c55, H⟩ | ⟨c55, H⟩
       ·exact absurd H (by simp)
       have c55b0 := decide_eq_true c55
       clear c55
       replace H := Option.bind_eq_some_iff.mp H
       obtain ⟨t422, A560, H⟩ := H
       try dsimp only at H
       have A56 := Aside0.mk A560
       clear A560
       rcases sqI (t422 = true) with c57 | c57
       ·replace c57 := Bool.eq_false_iff.mpr c57
        subst c57
        have H1 : (some false) = some r := by rw [if_neg (show ¬ (false = true) by decide)] at H; exact H
        clear H
        have H := H1
        clear H1
        obtain rfl := Option.some.inj H
        have p420 : 0 ≤ (x74_3 : Int) := sqd
        have q420 : x74_3 < (l0_2.length : Int) := sqd
        obtain ⟨ad420, A420_1, c420_1, e420, hx420_0, hx420_1, hx420_2, hx420_3, hx420_4, hx420_5, hl420_1, hi420_1⟩ := at_T63 HR0_2.out x74_3 p420 q420
        cases e420
        replace hx420_0 := sqa HB hx420_0
        replace hx420_1 := sqa HB hx420_1
        replace hx420_2 := sqa HB hx420_2
        replace hx420_3 := sqa HB hx420_3
        replace hx420_4 := sqa HB hx420_4
        replace hx420_5 := sqa HB hx420_5
        have HR420_1 := Aside0.mk hi420_1
        have HC420_1 := Aside0.mk hl420_1
        clear hi420_1 hl420_1
        replace p420 := eq_true p420
        replace q420 := eq_true q420
        go_wp2_with (first | ((with_reducible refine gate_dst (N := 8) rfl ?_); (try (refine gate_guard (by rfl) ?_; dsimp only)); refine sqx 8 #[.bool false, .slice none 0 0, .int .i64 0, .int .i64 0, .int .i64 0, .int .i64 0] 63 ?_; intro gb421 hg w62 hbox hb; have BK421 := Aside0.mk hbox; have GW421 := sqg HB hg; have GE421 := sqg HB hg; have NB411_421 := sqn BK411 hg; have NB421_411 := sqm BK411 hg; replace BK411 := sqb BK411 hb; replace HB := sqs HB hb; clear hb hbox hg; have hnb63 := NB421_411.out; have hnc63 := NB411_421.out; obtain ⟨hcz64_0, hcz64_1, hcz64_2, hcz64_3, hcz64_4, hcz64_5, hfz64_0, hfz64_1, hfz64_2, hfz64_3, hfz64_4, hfz64_5⟩ := sqc6 BK421) | ((with_reducible refine gate_callee (f := 58) rfl ?_); refine sqL (some 79) Try.func58 #[.agg #[.bool ((rd_T63 l0_2 x74_3).f0), .slice A420_1 ((rd_T63 l0_2 x74_3).f1).length c420_1, .int .i64 ((rd_T63 l0_2 x74_3).f2.f0), .int .i64 ((rd_T63 l0_2 x74_3).f2.f1), .int .i64 ((rd_T63 l0_2 x74_3).f2.f2), .int .i64 ((rd_T63 l0_2 x74_3).f2.f3)]] ?_; (with_reducible refine (impl_refOk.calls k3 ((rd_T63 l0_2 x74_3).f0) _ _ ((rd_T63 l0_2 x74_3).f1) ((rd_T63 l0_2 x74_3).f2.f0) ((rd_T63 l0_2 x74_3).f2.f1) ((rd_T63 l0_2 x74_3).f2.f2) ((rd_T63 l0_2 x74_3).f2.f3) false _ ?side1 ?side2 A56.out).mono ?_); (case side1 => exact Kd.C_below HR420_1.out (sqB HB)); (case side2 => exact HC420_1.out); rintro e w65 ⟨rfl, hb⟩; refine ⟨_, rfl, ?_⟩; have n0_ := sqbb BK411 hb; have n1_ := Aside0.mk (blk_below (g := gb421) (o := .cells #[.bool ((rd_T63 l0_2 x74_3).f0), .slice A420_1 ((rd_T63 l0_2 x74_3).f1).length c420_1, .int .i64 ((rd_T63 l0_2 x74_3).f2.f0), .int .i64 ((rd_T63 l0_2 x74_3).f2.f1), .int .i64 ((rd_T63 l0_2 x74_3).f2.f2), .int .i64 ((rd_T63 l0_2 x74_3).f2.f3)] 63 (0, 0)) (by refine sqt ?_; refine blk_put (cs := #[.bool ((rd_T63 l0_2 x74_3).f0), .slice A420_1 ((rd_T63 l0_2 x74_3).f1).length c420_1, .int .i64 ((rd_T63 l0_2 x74_3).f2.f0), .int .i64 ((rd_T63 l0_2 x74_3).f2.f1), .int .i64 ((rd_T63 l0_2 x74_3).f2.f2), .int .i64 0]) ?_ 5 _ rfl; refine sqt ?_; refine blk_put (cs := #[.bool ((rd_T63 l0_2 x74_3).f0), .slice A420_1 ((rd_T63 l0_2 x74_3).f1).length c420_1, .int .i64 ((rd_T63 l0_2 x74_3).f2.f0), .int .i64 ((rd_T63 l0_2 x74_3).f2.f1), .int .i64 0, .int .i64 0]) ?_ 4 _ rfl; refine sqt ?_; refine blk_put (cs := #[.bool ((rd_T63 l0_2 x74_3).f0), .slice A420_1 ((rd_T63 l0_2 x74_3).f1).length c420_1, .int .i64 ((rd_T63 l0_2 x74_3).f2.f0), .int .i64 0, .int .i64 0, .int .i64 0]) ?_ 3 _ rfl; refine sqt ?_; refine blk_put (cs := #[.bool ((rd_T63 l0_2 x74_3).f0), .slice A420_1 ((rd_T63 l0_2 x74_3).f1).length c420_1, .int .i64 0, .int .i64 0, .int .i64 0, .int .i64 0]) ?_ 2 _ rfl; refine sqt ?_; refine blk_put (cs := #[.bool ((rd_T63 l0_2 x74_3).f0), .slice none 0 0, .int .i64 0, .int .i64 0, .int .i64 0, .int .i64 0]) ?_ 1 _ rfl; refine sqt ?_; refine blk_put (cs := #[.bool false, .slice none 0 0, .int .i64 0, .int .i64 0, .int .i64 0, .int .i64 0]) ?_ 0 _ rfl; refine sqt ?_; exact BK421.out) hb); have n2_ := sqs HB hb; clear BK411; clear BK421; clear HB; have BK411 := n0_; have BK421 := n1_; have HB := n2_; clear n0_ n1_ n2_; (try clear hb)))
        go_ret
        exact sqe HB
       subst c57
       have H1 : (impl_AbsOk.l2 k3 l0_2 (l0_2.length : Int) (wrap64 (x74_3 + 1)) true l0_1 l0_2 l0_3 a0_4 l0_5) = some r := by rw [if_pos rfl] at H; exact H
       clear H
       have H := H1
       clear H1
       have H' := Aside0.mk H
       clear H
       have p420 : 0 ≤ (x74_3 : Int) := sqd
       have q420 : x74_3 < (l0_2.length : Int) := sqd
       obtain ⟨ad420, A420_1, c420_1, e420, hx420_0, hx420_1, hx420_2, hx420_3, hx420_4, hx420_5, hl420_1, hi420_1⟩ := at_T63 HR0_2.out x74_3 p420 q420
       cases e420
       replace hx420_0 := sqa HB hx420_0
       replace hx420_1 := sqa HB hx420_1
       replace hx420_2 := sqa HB hx420_2
       replace hx420_3 := sqa HB hx420_3
       replace hx420_4 := sqa HB hx420_4
       replace hx420_5 := sqa HB hx420_5
       have HR420_1 := Aside0.mk hi420_1
       have HC420_1 := Aside0.mk hl420_1
       clear hi420_1 hl420_1
       replace p420 := eq_true p420
       replace q420 := eq_true q420
       go_wp2_with (first | ((with_reducible refine gate_dst (N := 8) rfl ?_); (try (refine gate_guard (by rfl) ?_; dsimp only)); refine sqx 8 #[.bool false, .slice none 0 0, .int .i64 0, .int .i64 0, .int .i64 0, .int .i64 0] 63 ?_; intro gb421 hg w58 hbox hb; have BK421 := Aside0.mk hbox; have GW421 := sqg HB hg; have GE421 := sqg HB hg; have NB411_421 := sqn BK411 hg; have NB421_411 := sqm BK411 hg; replace BK411 := sqb BK411 hb; replace HB := sqs HB hb; clear hb hbox hg; have hnb59 := NB421_411.out; have hnc59 := NB411_421.out; obtain ⟨hcz60_0, hcz60_1, hcz60_2, hcz60_3, hcz60_4, hcz60_5, hfz60_0, hfz60_1, hfz60_2, hfz60_3, hfz60_4, hfz60_5⟩ := sqc6 BK421) | ((with_reducible refine gate_callee (f := 58) rfl ?_); refine sqL (some 79) Try.func58 #[.agg #[.bool ((rd_T63 l0_2 x74_3).f0), .slice A420_1 ((rd_T63 l0_2 x74_3).f1).length c420_1, .int .i64 ((rd_T63 l0_2 x74_3).f2.f0), .int .i64 ((rd_T63 l0_2 x74_3).f2.f1), .int .i64 ((rd_T63 l0_2 x74_3).f2.f2), .int .i64 ((rd_T63 l0_2 x74_3).f2.f3)]] ?_; (with_reducible refine (impl_refOk.calls k3 ((rd_T63 l0_2 x74_3).f0) _ _ ((rd_T63 l0_2 x74_3).f1) ((rd_T63 l0_2 x74_3).f2.f0) ((rd_T63 l0_2 x74_3).f2.f1) ((rd_T63 l0_2 x74_3).f2.f2) ((rd_T63 l0_2 x74_3).f2.f3) true _ ?side1 ?side2 A56.out).mono ?_); (case side1 => exact Kd.C_below HR420_1.out (sqB HB)); (case side2 => exact HC420_1.out); rintro e w61 ⟨rfl, hb⟩; refine ⟨_, rfl, ?_⟩; have n0_ := sqbb BK411 hb; have n1_ := Aside0.mk (blk_below (g := gb421) (o := .cells #[.bool ((rd_T63 l0_2 x74_3).f0), .slice A420_1 ((rd_T63 l0_2 x74_3).f1).length c420_1, .int .i64 ((rd_T63 l0_2 x74_3).f2.f0), .int .i64 ((rd_T63 l0_2 x74_3).f2.f1), .int .i64 ((rd_T63 l0_2 x74_3).f2.f2), .int .i64 ((rd_T63 l0_2 x74_3).f2.f3)] 63 (0, 0)) (by refine sqt ?_; refine blk_put (cs := #[.bool ((rd_T63 l0_2 x74_3).f0), .slice A420_1 ((rd_T63 l0_2 x74_3).f1).length c420_1, .int .i64 ((rd_T63 l0_2 x74_3).f2.f0), .int .i64 ((rd_T63 l0_2 x74_3).f2.f1), .int .i64 ((rd_T63 l0_2 x74_3).f2.f2), .int .i64 0]) ?_ 5 _ rfl; refine sqt ?_; refine blk_put (cs := #[.bool ((rd_T63 l0_2 x74_3).f0), .slice A420_1 ((rd_T63 l0_2 x74_3).f1).length c420_1, .int .i64 ((rd_T63 l0_2 x74_3).f2.f0), .int .i64 ((rd_T63 l0_2 x74_3).f2.f1), .int .i64 0, .int .i64 0]) ?_ 4 _ rfl; refine sqt ?_; refine blk_put (cs := #[.bool ((rd_T63 l0_2 x74_3).f0), .slice A420_1 ((rd_T63 l0_2 x74_3).f1).length c420_1, .int .i64 ((rd_T63 l0_2 x74_3).f2.f0), .int .i64 0, .int .i64 0, .int .i64 0]) ?_ 3 _ rfl; refine sqt ?_; refine blk_put (cs := #[.bool ((rd_T63 l0_2 x74_3).f0), .slice A420_1 ((rd_T63 l0_2 x74_3).f1).length c420_1, .int .i64 0, .int .i64 0, .int .i64 0, .int .i64 0]) ?_ 2 _ rfl; refine sqt ?_; refine blk_put (cs := #[.bool ((rd_T63 l0_2 x74_3).f0), .slice none 0 0, .int .i64 0, .int .i64 0, .int .i64 0, .int .i64 0]) ?_ 1 _ rfl; refine sqt ?_; refine blk_put (cs := #[.bool false, .slice none 0 0, .int .i64 0, .int .i64 0, .int .i64 0, .int .i64 0]) ?_ 0 _ rfl; refine sqt ?_; exact BK421.out) hb); have n2_ := sqs HB hb; clear BK411; clear BK421; clear HB; have BK411 := n0_; have BK421 := n1_; have HB := n2_; clear n0_ n1_ n2_; (try clear hb)))
       go_roundg k3
       case measure => have := HK1.out; have := HK2.out; have := HK3.out; omega
       case rel => exact ⟨(wrap64 (x74_3 + 1)), (by first | rfl | (simp; done) | (simp [*]; done)), H', ⟨by have := HK1.out; have := HK2.out; have := HK3.out; omega⟩, sqk BK411, sqh HB⟩

end Go.Proofs.Ytnmgckdgmplddaa.PFnExactAbsHas
