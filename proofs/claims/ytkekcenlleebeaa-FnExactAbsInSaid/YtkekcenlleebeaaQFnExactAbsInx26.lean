/- Functions of the program as plain Lean functions, and that calls of them come to what these tell. Conditions: those in each law. -/
import Derived.Test.YtkekcenlleebeaaSq
import Derived.Test.YtkekcenlleebeaaDFnExactAbsIn
import Derived.Test.YtkekcenlleebeaaQFnExactAbsInx0
import Derived.Test.YtkekcenlleebeaaQFnExactAbsInx21
import Derived.Test.YtkekcenlleebeaaQFnExactAbsInx24
import Derived.Test.YtkekcenlleebeaaQFnExactAbsInx25
namespace Go.Proofs.Ytkekcenlleebeaa.PFnExactAbsIn
open Go.RowKit Go.Proofs.Ytkekcenlleebeaa.Sq Go.Proofs.YtkekcenlleebeaaW.PrintWords Go.Proofs.YtkekcenlleebeaaW.PrintLast Go.Proofs.YtkekcenlleebeaaW.PrintMore
attribute [local go_sem] max2_int min2_int max_two min_two max_three min_three max_four min_four   -- for this text's walks alone
set_option linter.unusedVariables false
set_option linter.unusedSimpArgs false

/-! ### impl_AbsOk: function 60 -/
set_option maxHeartbeats 8000000 in
set_option maxRecDepth 100000 in
theorem impl_AbsOk.calls (k : Nat) (a0_0 : Bool) (A0_1 : Option Addr) (c0_1 : Nat) (l0_1 : List (S30)) (A0_2 : Option Addr) (c0_2 : Nat) (l0_2 : List (S132)) (A0_3 : Option Addr) (c0_3 : Nat) (l0_3 : List (S30)) (a0_4 : Int) (A0_5 : Option Addr) (c0_5 : Nat) (l0_5 : List Int) (r : Bool) (w : World) (hr0_1 : Kd.C k30 w A0_1 l0_1.length l0_1) (hc0_1 : l0_1.length ≤ c0_1) (hr0_2 : Kd.C k132 w A0_2 l0_2.length l0_2) (hc0_2 : l0_2.length ≤ c0_2) (hr0_3 : Kd.C k30 w A0_3 l0_3.length l0_3) (hc0_3 : l0_3.length ≤ c0_3) (hr0_5 : Kd.C (Kd.int .i64) w A0_5 l0_5.length l0_5) (hc0_5 : l0_5.length ≤ c0_5) (h : impl_AbsOk.f k a0_0 l0_1 l0_2 l0_3 a0_4 l0_5 = some r) :
  Calls Try.prog 60 #[.agg #[.bool a0_0, .slice A0_1 l0_1.length c0_1, .slice A0_2 l0_2.length c0_2, .slice A0_3 l0_3.length c0_3, .int .i64 a0_4, .slice A0_5 l0_5.length c0_5]] w fun e w' => e = .returned (.bool r) ∧ Below w.heap.size w w' := by
 have hu78 := Try.underlying78
 have hu30 := Try.underlying30
 have hu132 := Try.underlying132
 have hu41 := Try.underlying41
 have HR0_1 := Aside0.mk hr0_1
 have HC0_1 := Aside0.mk hc0_1
 clear hr0_1 hc0_1
 have HR0_2 := Aside0.mk hr0_2
 have HC0_2 := Aside0.mk hc0_2
 clear hr0_2 hc0_2
 have HR0_3 := Aside0.mk hr0_3
 have HC0_3 := Aside0.mk hc0_3
 clear hr0_3 hc0_3
 have HR0_5 := Aside0.mk hr0_5
 have HC0_5 := Aside0.mk hc0_5
 clear hr0_5 hc0_5
 have HB := Aside0.mk (Below.refl w.heap.size w)
 have H : (if a0_0 = true then (impl_AbsOk.l0 k l0_1 (l0_1.length : Int) 0 a0_0 l0_1 l0_2 l0_3 a0_4 l0_5) else (if (l0_1.length : Int) = 0 then (if (l0_2.length : Int) = 0 then (if (l0_3.length : Int) = 0 then (if a0_4 = 0 then (some ((l0_5.length : Int) == 0)) else (some false)) else (some false)) else (some false)) else (some false))) = some r := h
 clear h
 rcases sqI (a0_0 = true) with c2 | c2
 ·replace c2 := Bool.eq_false_iff.mpr c2
  subst c2
  have H1 : (if (l0_1.length : Int) = 0 then (if (l0_2.length : Int) = 0 then (if (l0_3.length : Int) = 0 then (if a0_4 = 0 then (some ((l0_5.length : Int) == 0)) else (some false)) else (some false)) else (some false)) else (some false)) = some r := by rw [if_neg (show ¬ (false = true) by decide)] at H; exact H
  clear H
  have H := H1
  clear H1
  replace H := sqi H
  rcases H with ⟨c73, H⟩ | ⟨c73, H⟩
  ·have c73b0 : ((l0_1.length : Int) == 0) = false := beq_eq_false_iff_ne.mpr c73
   have c73b1 : ((l0_1.length : Int) != 0) = true := bne_iff_ne.mpr c73
   have c73b2 : ¬ (l0_1 = []) := fun h_ => c73 (by rw [h_]; rfl)
   obtain rfl := Option.some.inj H
   go_enter Try.func60, Try.ntmps60
   go_wp2_with (first | ((with_reducible refine gate_dst (N := 1) rfl ?_); (try (refine gate_guard (by rfl) ?_; dsimp only)); refine sqx 1 #[.bool false, .slice A0_1 l0_1.length c0_1, .slice A0_2 l0_2.length c0_2, .slice A0_3 l0_3.length c0_3, .int .i64 a0_4, .slice A0_5 l0_5.length c0_5] 78 ?_; intro gb433 hg w85 hbox hb; have BK433 := Aside0.mk hbox; have GW433 := sqg HB hg; have GE433 := sqg HB hg; replace HB := sqs HB hb; clear hb hbox hg; obtain ⟨hcz86_0, hcz86_1, hcz86_2, hcz86_3, hcz86_4, hcz86_5, hfz86_0, hfz86_1, hfz86_2, hfz86_3, hfz86_4, hfz86_5⟩ := sqc6 BK433))
   go_ret
   exact sqe HB
  have c73b0 : ((l0_1.length : Int) == 0) = true := beq_iff_eq.mpr c73
  have c73b1 : ((l0_1.length : Int) != 0) = false := bne_eq_false_iff_eq.mpr c73
  clear c73
  replace H := sqi H
  rcases H with ⟨c74, H⟩ | ⟨c74, H⟩
  ·have c74b0 : ((l0_2.length : Int) == 0) = false := beq_eq_false_iff_ne.mpr c74
   have c74b1 : ((l0_2.length : Int) != 0) = true := bne_iff_ne.mpr c74
   have c74b2 : ¬ (l0_2 = []) := fun h_ => c74 (by rw [h_]; rfl)
   obtain rfl := Option.some.inj H
   go_enter Try.func60, Try.ntmps60
   go_wp2_with (first | ((with_reducible refine gate_dst (N := 1) rfl ?_); (try (refine gate_guard (by rfl) ?_; dsimp only)); refine sqx 1 #[.bool false, .slice A0_1 l0_1.length c0_1, .slice A0_2 l0_2.length c0_2, .slice A0_3 l0_3.length c0_3, .int .i64 a0_4, .slice A0_5 l0_5.length c0_5] 78 ?_; intro gb433 hg w83 hbox hb; have BK433 := Aside0.mk hbox; have GW433 := sqg HB hg; have GE433 := sqg HB hg; replace HB := sqs HB hb; clear hb hbox hg; obtain ⟨hcz84_0, hcz84_1, hcz84_2, hcz84_3, hcz84_4, hcz84_5, hfz84_0, hfz84_1, hfz84_2, hfz84_3, hfz84_4, hfz84_5⟩ := sqc6 BK433))
   go_ret
   exact sqe HB
  have c74b0 : ((l0_2.length : Int) == 0) = true := beq_iff_eq.mpr c74
  have c74b1 : ((l0_2.length : Int) != 0) = false := bne_eq_false_iff_eq.mpr c74
  clear c74
  replace H := sqi H
  rcases H with ⟨c75, H⟩ | ⟨c75, H⟩
  ·have c75b0 : ((l0_3.length : Int) == 0) = false := beq_eq_false_iff_ne.mpr c75
   have c75b1 : ((l0_3.length : Int) != 0) = true := bne_iff_ne.mpr c75
   have c75b2 : ¬ (l0_3 = []) := fun h_ => c75 (by rw [h_]; rfl)
   obtain rfl := Option.some.inj H
   go_enter Try.func60, Try.ntmps60
   go_wp2_with (first | ((with_reducible refine gate_dst (N := 1) rfl ?_); (try (refine gate_guard (by rfl) ?_; dsimp only)); refine sqx 1 #[.bool false, .slice A0_1 l0_1.length c0_1, .slice A0_2 l0_2.length c0_2, .slice A0_3 l0_3.length c0_3, .int .i64 a0_4, .slice A0_5 l0_5.length c0_5] 78 ?_; intro gb433 hg w81 hbox hb; have BK433 := Aside0.mk hbox; have GW433 := sqg HB hg; have GE433 := sqg HB hg; replace HB := sqs HB hb; clear hb hbox hg; obtain ⟨hcz82_0, hcz82_1, hcz82_2, hcz82_3, hcz82_4, hcz82_5, hfz82_0, hfz82_1, hfz82_2, hfz82_3, hfz82_4, hfz82_5⟩ := sqc6 BK433))
   go_ret
   exact sqe HB
  have c75b0 : ((l0_3.length : Int) == 0) = true := beq_iff_eq.mpr c75
  have c75b1 : ((l0_3.length : Int) != 0) = false := bne_eq_false_iff_eq.mpr c75
  clear c75
  replace H := sqi H
  rcases H with ⟨c76, H⟩ | ⟨c76, H⟩
  ·have c76b0 : (a0_4 == 0) = false := beq_eq_false_iff_ne.mpr c76
   have c76b1 : (a0_4 != 0) = true := bne_iff_ne.mpr c76
   obtain rfl := Option.some.inj H
   go_enter Try.func60, Try.ntmps60
   go_wp2_with (first | ((with_reducible refine gate_dst (N := 1) rfl ?_); (try (refine gate_guard (by rfl) ?_; dsimp only)); refine sqx 1 #[.bool false, .slice A0_1 l0_1.length c0_1, .slice A0_2 l0_2.length c0_2, .slice A0_3 l0_3.length c0_3, .int .i64 a0_4, .slice A0_5 l0_5.length c0_5] 78 ?_; intro gb433 hg w79 hbox hb; have BK433 := Aside0.mk hbox; have GW433 := sqg HB hg; have GE433 := sqg HB hg; replace HB := sqs HB hb; clear hb hbox hg; obtain ⟨hcz80_0, hcz80_1, hcz80_2, hcz80_3, hcz80_4, hcz80_5, hfz80_0, hfz80_1, hfz80_2, hfz80_3, hfz80_4, hfz80_5⟩ := sqc6 BK433))
   go_ret
   exact sqe HB
  have c76b0 : (a0_4 == 0) = true := beq_iff_eq.mpr c76
  have c76b1 : (a0_4 != 0) = false := bne_eq_false_iff_eq.mpr c76
  clear c76
  obtain rfl := Option.some.inj H
  go_enter Try.func60, Try.ntmps60
  go_wp2_with (first | ((with_reducible refine gate_dst (N := 1) rfl ?_); (try (refine gate_guard (by rfl) ?_; dsimp only)); refine sqx 1 #[.bool false, .slice A0_1 l0_1.length c0_1, .slice A0_2 l0_2.length c0_2, .slice A0_3 l0_3.length c0_3, .int .i64 a0_4, .slice A0_5 l0_5.length c0_5] 78 ?_; intro gb433 hg w77 hbox hb; have BK433 := Aside0.mk hbox; have GW433 := sqg HB hg; have GE433 := sqg HB hg; replace HB := sqs HB hb; clear hb hbox hg; obtain ⟨hcz78_0, hcz78_1, hcz78_2, hcz78_3, hcz78_4, hcz78_5, hfz78_0, hfz78_1, hfz78_2, hfz78_3, hfz78_4, hfz78_5⟩ := sqc6 BK433))
  go_ret
  exact sqe HB
 subst c2
 have H1 : (impl_AbsOk.l0 k l0_1 (l0_1.length : Int) 0 true l0_1 l0_2 l0_3 a0_4 l0_5) = some r := by rw [if_pos rfl] at H; exact H
 clear H
 have H := H1
 clear H1
 have H' := Aside0.mk H
 clear H
 go_enter Try.func60, Try.ntmps60
 go_wp2_with (first | ((with_reducible refine gate_dst (N := 1) rfl ?_); (try (refine gate_guard (by rfl) ?_; dsimp only)); refine sqx 1 #[.bool true, .slice A0_1 l0_1.length c0_1, .slice A0_2 l0_2.length c0_2, .slice A0_3 l0_3.length c0_3, .int .i64 a0_4, .slice A0_5 l0_5.length c0_5] 78 ?_; intro gb433 hg w3 hbox hb; have BK433 := Aside0.mk hbox; have GW433 := sqg HB hg; have GE433 := sqg HB hg; replace HB := sqs HB hb; clear hb hbox hg; obtain ⟨hcz4_0, hcz4_1, hcz4_2, hcz4_3, hcz4_4, hcz4_5, hfz4_0, hfz4_1, hfz4_2, hfz4_3, hfz4_4, hfz4_5⟩ := sqc6 BK433))
 go_loopg [44] k (fun kq v44 w' => ∃ (x44_1 : Int), v44 = .int .i64 x44_1 ∧ Aside0 (impl_AbsOk.l0 kq l0_1 (l0_1.length : Int) x44_1 true l0_1 l0_2 l0_3 a0_4 l0_5 = some r) ∧ Aside0 (kq ≤ k) ∧ Aside0 (w'.heap[gb433]? = some (.cells #[.bool true, (.slice A0_1 l0_1.length c0_1), (.slice A0_2 l0_2.length c0_2), (.slice A0_3 l0_3.length c0_3), .int .i64 a0_4, (.slice A0_5 l0_5.length c0_5)] 78 (0, 0))) ∧ Aside0 (Below w.heap.size w w'))
 case atStart => exact ⟨(0), (by first | rfl | (simp; done) | (simp [*]; done)), H', ⟨Nat.le_refl _⟩, sqk BK433, sqh HB⟩
 case round =>
  clear H'
  obtain ⟨x44_1, rfl, HA, HK1, BK433, HB⟩ := hrel
  cases gk with
  | zero => exact absurd HA.out (by simp [impl_AbsOk.l0])
  | succ k1 =>
   have H := HA.out
   clear HA
   simp only [impl_AbsOk.l0] at H
   replace H := sqj H
   rcases H with ⟨c5, H⟩ | ⟨c5, H⟩
   ·have c5b0 := decide_eq_true c5
    clear c5
    replace H := sqi H
    rcases H with ⟨c6, H⟩ | ⟨c6, H⟩
    ·exact absurd H (by simp)
    have c6b0 := decide_eq_true c6
    clear c6
    replace H := sqi H
    rcases H with ⟨c7, H⟩ | ⟨c7, H⟩
    ·exact absurd H (by simp)
    have c7b0 := decide_eq_true c7
    clear c7
    replace H := sqbi H
    obtain ⟨t436, A8, H⟩ := H
    replace H : (if t436 = true then (some false) else ((impl_ValOk.f k1 ((rd_T30 l0_1 x44_1).f0) ((rd_T30 l0_1 x44_1).f1) ((rd_T30 l0_1 x44_1).f2) ((rd_T30 l0_1 x44_1).f3)).bind fun t437 => (if t437 = true then (impl_AbsOk.l0 k1 l0_1 (l0_1.length : Int) (wrap64 (x44_1 + 1)) true l0_1 l0_2 l0_3 a0_4 l0_5) else (some false)))) = some r := H
    by_cases c9 : t436 = true
    ·subst c9
     have H1 : (some false) = some r := by rw [if_pos rfl] at H; exact H
     clear H
     have H := H1
     clear H1
     obtain rfl := Option.some.inj H
     have p434 : 0 ≤ (x44_1 : Int) := sqd
     have q434 : x44_1 < (l0_1.length : Int) := sqd
     obtain ⟨ad434, e434, hx434_0, hx434_1, hx434_2, hx434_3⟩ := at_T30 HR0_1.out x44_1 p434 q434
     cases e434
     replace hx434_0 := sqa HB hx434_0
     replace hx434_1 := sqa HB hx434_1
     replace hx434_2 := sqa HB hx434_2
     replace hx434_3 := sqa HB hx434_3
     replace p434 := eq_true p434
     replace q434 := eq_true q434
     go_wp2_with (first | ((with_reducible refine gate_dst (N := 4) rfl ?_); (try (refine gate_guard (by rfl) ?_; dsimp only)); refine sqx 4 #[.int .i64 0, .int .i64 0, .int .i64 0, .int .i64 0] 30 ?_; intro gb435 hg w10 hbox hb; have BK435 := Aside0.mk hbox; have GW435 := sqg HB hg; have GE435 := sqg HB hg; have NB433_435 := sqn BK433 hg; have NB435_433 := sqm BK433 hg; replace BK433 := sqb BK433 hb; replace HB := sqs HB hb; clear hb hbox hg; have hnb11 := NB435_433.out; have hnc11 := NB433_435.out; obtain ⟨hcz12_0, hcz12_1, hcz12_2, hcz12_3, hfz12_0, hfz12_1, hfz12_2, hfz12_3⟩ := sqc4 BK435) | ((with_reducible refine gate_callee (f := 144) rfl ?_); refine sqL (some 49) Try.func144 #[.agg #[.int .i64 ((rd_T30 l0_1 x44_1).f0), .int .i64 ((rd_T30 l0_1 x44_1).f1), .int .i64 ((rd_T30 l0_1 x44_1).f2), .int .i64 ((rd_T30 l0_1 x44_1).f3)]] ?_; (with_reducible refine (impl_Val_none.calls ((rd_T30 l0_1 x44_1).f0) ((rd_T30 l0_1 x44_1).f1) ((rd_T30 l0_1 x44_1).f2) ((rd_T30 l0_1 x44_1).f3) true _ A8.out).mono ?_); rintro e w13 ⟨rfl, hb⟩; refine ⟨_, rfl, ?_⟩; have n0_ := Aside0.mk (blk_below (g := gb433) (o := .cells #[.bool true, .slice (some ad434) l0_1.length c0_1, .slice A0_2 l0_2.length c0_2, .slice A0_3 l0_3.length c0_3, .int .i64 a0_4, .slice A0_5 l0_5.length c0_5] 78 (0, 0)) (by refine sqt ?_; refine blk_far ?_ NB433_435.out _; refine sqt ?_; refine blk_far ?_ NB433_435.out _; refine sqt ?_; refine blk_far ?_ NB433_435.out _; refine sqt ?_; refine blk_far ?_ NB433_435.out _; refine sqt ?_; exact BK433.out) hb); have n1_ := Aside0.mk (blk_below (g := gb435) (o := .cells #[.int .i64 ((rd_T30 l0_1 x44_1).f0), .int .i64 ((rd_T30 l0_1 x44_1).f1), .int .i64 ((rd_T30 l0_1 x44_1).f2), .int .i64 ((rd_T30 l0_1 x44_1).f3)] 30 (0, 0)) (by refine sqt ?_; refine blk_put (cs := #[.int .i64 ((rd_T30 l0_1 x44_1).f0), .int .i64 ((rd_T30 l0_1 x44_1).f1), .int .i64 ((rd_T30 l0_1 x44_1).f2), .int .i64 0]) ?_ 3 _ rfl; refine sqt ?_; refine blk_put (cs := #[.int .i64 ((rd_T30 l0_1 x44_1).f0), .int .i64 ((rd_T30 l0_1 x44_1).f1), .int .i64 0, .int .i64 0]) ?_ 2 _ rfl; refine sqt ?_; refine blk_put (cs := #[.int .i64 ((rd_T30 l0_1 x44_1).f0), .int .i64 0, .int .i64 0, .int .i64 0]) ?_ 1 _ rfl; refine sqt ?_; refine blk_put (cs := #[.int .i64 0, .int .i64 0, .int .i64 0, .int .i64 0]) ?_ 0 _ rfl; refine sqt ?_; exact BK435.out) hb); have n2_ := sqs HB hb; clear BK433; clear BK435; clear HB; have BK433 := n0_; have BK435 := n1_; have HB := n2_; clear n0_ n1_ n2_; (try clear hb)))
     go_ret
     exact sqe HB
    replace c9 := Bool.eq_false_iff.mpr c9
    subst c9
    have H1 : ((impl_ValOk.f k1 ((rd_T30 l0_1 x44_1).f0) ((rd_T30 l0_1 x44_1).f1) ((rd_T30 l0_1 x44_1).f2) ((rd_T30 l0_1 x44_1).f3)).bind fun t437 => (if t437 = true then (impl_AbsOk.l0 k1 l0_1 (l0_1.length : Int) (wrap64 (x44_1 + 1)) true l0_1 l0_2 l0_3 a0_4 l0_5) else (some false))) = some r := by rw [if_neg (show ¬ (false = true) by decide)] at H; exact H
    clear H
    have H := H1
    clear H1
    replace H := sqbi H
    obtain ⟨t437, A14, H⟩ := H
    replace H : (if t437 = true then (impl_AbsOk.l0 k1 l0_1 (l0_1.length : Int) (wrap64 (x44_1 + 1)) true l0_1 l0_2 l0_3 a0_4 l0_5) else (some false)) = some r := H
    rcases sqI (t437 = true) with c15 | c15
    ·replace c15 := Bool.eq_false_iff.mpr c15
     subst c15
     have H1 : (some false) = some r := by rw [if_neg (show ¬ (false = true) by decide)] at H; exact H
     clear H
     have H := H1
     clear H1
     obtain rfl := Option.some.inj H
     have p434 : 0 ≤ (x44_1 : Int) := sqd
     have q434 : x44_1 < (l0_1.length : Int) := sqd
     obtain ⟨ad434, e434, hx434_0, hx434_1, hx434_2, hx434_3⟩ := at_T30 HR0_1.out x44_1 p434 q434
     cases e434
     replace hx434_0 := sqa HB hx434_0
     replace hx434_1 := sqa HB hx434_1
     replace hx434_2 := sqa HB hx434_2
     replace hx434_3 := sqa HB hx434_3
     replace p434 := eq_true p434
     replace q434 := eq_true q434
     go_wp2_with (first | ((with_reducible refine gate_dst (N := 4) rfl ?_); (try (refine gate_guard (by rfl) ?_; dsimp only)); refine sqx 4 #[.int .i64 0, .int .i64 0, .int .i64 0, .int .i64 0] 30 ?_; intro gb435 hg w22 hbox hb; have BK435 := Aside0.mk hbox; have GW435 := sqg HB hg; have GE435 := sqg HB hg; have NB433_435 := sqn BK433 hg; have NB435_433 := sqm BK433 hg; replace BK433 := sqb BK433 hb; replace HB := sqs HB hb; clear hb hbox hg; have hnb23 := NB435_433.out; have hnc23 := NB433_435.out; obtain ⟨hcz24_0, hcz24_1, hcz24_2, hcz24_3, hfz24_0, hfz24_1, hfz24_2, hfz24_3⟩ := sqc4 BK435) | ((with_reducible refine gate_callee (f := 144) rfl ?_); refine sqL (some 49) Try.func144 #[.agg #[.int .i64 ((rd_T30 l0_1 x44_1).f0), .int .i64 ((rd_T30 l0_1 x44_1).f1), .int .i64 ((rd_T30 l0_1 x44_1).f2), .int .i64 ((rd_T30 l0_1 x44_1).f3)]] ?_; (with_reducible refine (impl_Val_none.calls ((rd_T30 l0_1 x44_1).f0) ((rd_T30 l0_1 x44_1).f1) ((rd_T30 l0_1 x44_1).f2) ((rd_T30 l0_1 x44_1).f3) false _ A8.out).mono ?_); rintro e w25 ⟨rfl, hb⟩; refine ⟨_, rfl, ?_⟩; have n0_ := Aside0.mk (blk_below (g := gb433) (o := .cells #[.bool true, .slice (some ad434) l0_1.length c0_1, .slice A0_2 l0_2.length c0_2, .slice A0_3 l0_3.length c0_3, .int .i64 a0_4, .slice A0_5 l0_5.length c0_5] 78 (0, 0)) (by refine sqt ?_; refine blk_far ?_ NB433_435.out _; refine sqt ?_; refine blk_far ?_ NB433_435.out _; refine sqt ?_; refine blk_far ?_ NB433_435.out _; refine sqt ?_; refine blk_far ?_ NB433_435.out _; refine sqt ?_; exact BK433.out) hb); have n1_ := Aside0.mk (blk_below (g := gb435) (o := .cells #[.int .i64 ((rd_T30 l0_1 x44_1).f0), .int .i64 ((rd_T30 l0_1 x44_1).f1), .int .i64 ((rd_T30 l0_1 x44_1).f2), .int .i64 ((rd_T30 l0_1 x44_1).f3)] 30 (0, 0)) (by refine sqt ?_; refine blk_put (cs := #[.int .i64 ((rd_T30 l0_1 x44_1).f0), .int .i64 ((rd_T30 l0_1 x44_1).f1), .int .i64 ((rd_T30 l0_1 x44_1).f2), .int .i64 0]) ?_ 3 _ rfl; refine sqt ?_; refine blk_put (cs := #[.int .i64 ((rd_T30 l0_1 x44_1).f0), .int .i64 ((rd_T30 l0_1 x44_1).f1), .int .i64 0, .int .i64 0]) ?_ 2 _ rfl; refine sqt ?_; refine blk_put (cs := #[.int .i64 ((rd_T30 l0_1 x44_1).f0), .int .i64 0, .int .i64 0, .int .i64 0]) ?_ 1 _ rfl; refine sqt ?_; refine blk_put (cs := #[.int .i64 0, .int .i64 0, .int .i64 0, .int .i64 0]) ?_ 0 _ rfl; refine sqt ?_; exact BK435.out) hb); have n2_ := sqs HB hb; clear BK433; clear BK435; clear HB; have BK433 := n0_; have BK435 := n1_; have HB := n2_; clear n0_ n1_ n2_; (try clear hb); obtain ⟨hcz26_0, hcz26_1, hcz26_2, hcz26_3, hfz26_0, hfz26_1, hfz26_2, hfz26_3⟩ := sqc4 BK435) | (go_at_call 18; (with_reducible refine (impl_ValOk.calls k1 ((rd_T30 l0_1 x44_1).f0) ((rd_T30 l0_1 x44_1).f1) ((rd_T30 l0_1 x44_1).f2) ((rd_T30 l0_1 x44_1).f3) false _ A14.out).mono ?_); rintro e w27 ⟨rfl, hb⟩; refine sqM2 BK433 BK435 hb ?_; clear BK433 BK435; intro BK433 BK435; replace HB := sqs HB hb; (try clear hb)))
     go_ret
     exact sqe HB
    subst c15
    have H1 : (impl_AbsOk.l0 k1 l0_1 (l0_1.length : Int) (wrap64 (x44_1 + 1)) true l0_1 l0_2 l0_3 a0_4 l0_5) = some r := by rw [if_pos rfl] at H; exact H
    clear H
    have H := H1
    clear H1
    have H' := Aside0.mk H
    clear H
    have p434 : 0 ≤ (x44_1 : Int) := sqd
    have q434 : x44_1 < (l0_1.length : Int) := sqd
    obtain ⟨ad434, e434, hx434_0, hx434_1, hx434_2, hx434_3⟩ := at_T30 HR0_1.out x44_1 p434 q434
    cases e434
    replace hx434_0 := sqa HB hx434_0
    replace hx434_1 := sqa HB hx434_1
    replace hx434_2 := sqa HB hx434_2
    replace hx434_3 := sqa HB hx434_3
    replace p434 := eq_true p434
    replace q434 := eq_true q434
    go_wp2_with (first | ((with_reducible refine gate_dst (N := 4) rfl ?_); (try (refine gate_guard (by rfl) ?_; dsimp only)); refine sqx 4 #[.int .i64 0, .int .i64 0, .int .i64 0, .int .i64 0] 30 ?_; intro gb435 hg w16 hbox hb; have BK435 := Aside0.mk hbox; have GW435 := sqg HB hg; have GE435 := sqg HB hg; have NB433_435 := sqn BK433 hg; have NB435_433 := sqm BK433 hg; replace BK433 := sqb BK433 hb; replace HB := sqs HB hb; clear hb hbox hg; have hnb17 := NB435_433.out; have hnc17 := NB433_435.out; obtain ⟨hcz18_0, hcz18_1, hcz18_2, hcz18_3, hfz18_0, hfz18_1, hfz18_2, hfz18_3⟩ := sqc4 BK435) | ((with_reducible refine gate_callee (f := 144) rfl ?_); refine sqL (some 49) Try.func144 #[.agg #[.int .i64 ((rd_T30 l0_1 x44_1).f0), .int .i64 ((rd_T30 l0_1 x44_1).f1), .int .i64 ((rd_T30 l0_1 x44_1).f2), .int .i64 ((rd_T30 l0_1 x44_1).f3)]] ?_; (with_reducible refine (impl_Val_none.calls ((rd_T30 l0_1 x44_1).f0) ((rd_T30 l0_1 x44_1).f1) ((rd_T30 l0_1 x44_1).f2) ((rd_T30 l0_1 x44_1).f3) false _ A8.out).mono ?_); rintro e w19 ⟨rfl, hb⟩; refine ⟨_, rfl, ?_⟩; have n0_ := Aside0.mk (blk_below (g := gb433) (o := .cells #[.bool true, .slice (some ad434) l0_1.length c0_1, .slice A0_2 l0_2.length c0_2, .slice A0_3 l0_3.length c0_3, .int .i64 a0_4, .slice A0_5 l0_5.length c0_5] 78 (0, 0)) (by refine sqt ?_; refine blk_far ?_ NB433_435.out _; refine sqt ?_; refine blk_far ?_ NB433_435.out _; refine sqt ?_; refine blk_far ?_ NB433_435.out _; refine sqt ?_; refine blk_far ?_ NB433_435.out _; refine sqt ?_; exact BK433.out) hb); have n1_ := Aside0.mk (blk_below (g := gb435) (o := .cells #[.int .i64 ((rd_T30 l0_1 x44_1).f0), .int .i64 ((rd_T30 l0_1 x44_1).f1), .int .i64 ((rd_T30 l0_1 x44_1).f2), .int .i64 ((rd_T30 l0_1 x44_1).f3)] 30 (0, 0)) (by refine sqt ?_; refine blk_put (cs := #[.int .i64 ((rd_T30 l0_1 x44_1).f0), .int .i64 ((rd_T30 l0_1 x44_1).f1), .int .i64 ((rd_T30 l0_1 x44_1).f2), .int .i64 0]) ?_ 3 _ rfl; refine sqt ?_; refine blk_put (cs := #[.int .i64 ((rd_T30 l0_1 x44_1).f0), .int .i64 ((rd_T30 l0_1 x44_1).f1), .int .i64 0, .int .i64 0]) ?_ 2 _ rfl; refine sqt ?_; refine blk_put (cs := #[.int .i64 ((rd_T30 l0_1 x44_1).f0), .int .i64 0, .int .i64 0, .int .i64 0]) ?_ 1 _ rfl; refine sqt ?_; refine blk_put (cs := #[.int .i64 0, .int .i64 0, .int .i64 0, .int .i64 0]) ?_ 0 _ rfl; refine sqt ?_; exact BK435.out) hb); have n2_ := sqs HB hb; clear BK433; clear BK435; clear HB; have BK433 := n0_; have BK435 := n1_; have HB := n2_; clear n0_ n1_ n2_; (try clear hb); obtain ⟨hcz20_0, hcz20_1, hcz20_2, hcz20_3, hfz20_0, hfz20_1, hfz20_2, hfz20_3⟩ := sqc4 BK435) | (go_at_call 18; (with_reducible refine (impl_ValOk.calls k1 ((rd_T30 l0_1 x44_1).f0) ((rd_T30 l0_1 x44_1).f1) ((rd_T30 l0_1 x44_1).f2) ((rd_T30 l0_1 x44_1).f3) true _ A14.out).mono ?_); rintro e w21 ⟨rfl, hb⟩; refine sqM2 BK433 BK435 hb ?_; clear BK433 BK435; intro BK433 BK435; replace HB := sqs HB hb; (try clear hb)))
    go_roundg k1
    case measure => have := HK1.out; omega
    case rel => exact ⟨(wrap64 (x44_1 + 1)), (by first | rfl | (simp; done) | (simp [*]; done)), H', ⟨by have := HK1.out; omega⟩, sqk BK433, sqh HB⟩
   have c5b0 := decide_eq_false c5
   clear c5
   have H' := Aside0.mk H
   clear H
   obtain ⟨hcz28_0, hcz28_1, hcz28_2, hcz28_3, hcz28_4, hcz28_5, hfz28_0, hfz28_1, hfz28_2, hfz28_3, hfz28_4, hfz28_5⟩ := sqc6 BK433
   go_wp2
   go_loopg [59] k1 (fun kq v59 w' => ∃ (x59_2 : Int), v59 = .int .i64 x59_2 ∧ Aside0 (impl_AbsOk.l1 kq l0_3 (l0_3.length : Int) x59_2 true l0_1 l0_2 l0_3 a0_4 l0_5 = some r) ∧ Aside0 (kq ≤ k1) ∧ Aside0 (w'.heap[gb433]? = some (.cells #[.bool true, (.slice A0_1 l0_1.length c0_1), (.slice A0_2 l0_2.length c0_2), (.slice A0_3 l0_3.length c0_3), .int .i64 a0_4, (.slice A0_5 l0_5.length c0_5)] 78 (0, 0))) ∧ Aside0 (Below w.heap.size w w'))
   case atStart => exact ⟨(0), (by first | rfl | (simp; done) | (simp [*]; done)), H', ⟨Nat.le_refl _⟩, sqk BK433, sqh HB⟩
   case round =>
    clear H'
    obtain ⟨x59_2, rfl, HA, HK2, BK433, HB⟩ := hrel
    cases gk with
    | zero => exact absurd HA.out (by simp [impl_AbsOk.l1])
    | succ k2 =>
     have H := HA.out
     clear HA
     simp only [impl_AbsOk.l1] at H
     replace H := sqj H
     rcases H with ⟨c29, H⟩ | ⟨c29, H⟩
     ·have c29b0 := decide_eq_true c29
      clear c29
      replace H := sqi H
      rcases H with ⟨c30, H⟩ | ⟨c30, H⟩
      ·exact absurd H (by simp)
      have c30b0 := decide_eq_true c30
      clear c30
      replace H := sqi H
      rcases H with ⟨c31, H⟩ | ⟨c31, H⟩
      ·exact absurd H (by simp)
      have c31b0 := decide_eq_true c31
      clear c31
      replace H := sqbi H
      obtain ⟨t440, A32, H⟩ := H
      replace H : (if t440 = true then (some false) else ((impl_ValOk.f k2 ((rd_T30 l0_3 x59_2).f0) ((rd_T30 l0_3 x59_2).f1) ((rd_T30 l0_3 x59_2).f2) ((rd_T30 l0_3 x59_2).f3)).bind fun t441 => (if t441 = true then (impl_AbsOk.l1 k2 l0_3 (l0_3.length : Int) (wrap64 (x59_2 + 1)) true l0_1 l0_2 l0_3 a0_4 l0_5) else (some false)))) = some r := H
      by_cases c33 : t440 = true
      ·subst c33
       have H1 : (some false) = some r := by rw [if_pos rfl] at H; exact H
       clear H
       have H := H1
       clear H1
       obtain rfl := Option.some.inj H
       have p438 : 0 ≤ (x59_2 : Int) := sqd
       have q438 : x59_2 < (l0_3.length : Int) := sqd
       obtain ⟨ad438, e438, hx438_0, hx438_1, hx438_2, hx438_3⟩ := at_T30 HR0_3.out x59_2 p438 q438
       cases e438
       replace hx438_0 := sqa HB hx438_0
       replace hx438_1 := sqa HB hx438_1
       replace hx438_2 := sqa HB hx438_2
       replace hx438_3 := sqa HB hx438_3
       replace p438 := eq_true p438
       replace q438 := eq_true q438
       go_wp2_with (first | ((with_reducible refine gate_dst (N := 6) rfl ?_); (try (refine gate_guard (by rfl) ?_; dsimp only)); refine sqx 6 #[.int .i64 0, .int .i64 0, .int .i64 0, .int .i64 0] 30 ?_; intro gb439 hg w34 hbox hb; have BK439 := Aside0.mk hbox; have GW439 := sqg HB hg; have GE439 := sqg HB hg; have NB433_439 := sqn BK433 hg; have NB439_433 := sqm BK433 hg; replace BK433 := sqb BK433 hb; replace HB := sqs HB hb; clear hb hbox hg; have hnb35 := NB439_433.out; have hnc35 := NB433_439.out; obtain ⟨hcz36_0, hcz36_1, hcz36_2, hcz36_3, hfz36_0, hfz36_1, hfz36_2, hfz36_3⟩ := sqc4 BK439) | ((with_reducible refine gate_callee (f := 144) rfl ?_); refine sqL (some 64) Try.func144 #[.agg #[.int .i64 ((rd_T30 l0_3 x59_2).f0), .int .i64 ((rd_T30 l0_3 x59_2).f1), .int .i64 ((rd_T30 l0_3 x59_2).f2), .int .i64 ((rd_T30 l0_3 x59_2).f3)]] ?_; (with_reducible refine (impl_Val_none.calls ((rd_T30 l0_3 x59_2).f0) ((rd_T30 l0_3 x59_2).f1) ((rd_T30 l0_3 x59_2).f2) ((rd_T30 l0_3 x59_2).f3) true _ A32.out).mono ?_); rintro e w37 ⟨rfl, hb⟩; refine ⟨_, rfl, ?_⟩; have n0_ := Aside0.mk (blk_below (g := gb433) (o := .cells #[.bool true, .slice A0_1 l0_1.length c0_1, .slice A0_2 l0_2.length c0_2, .slice (some ad438) l0_3.length c0_3, .int .i64 a0_4, .slice A0_5 l0_5.length c0_5] 78 (0, 0)) (by refine sqt ?_; refine blk_far ?_ NB433_439.out _; refine sqt ?_; refine blk_far ?_ NB433_439.out _; refine sqt ?_; refine blk_far ?_ NB433_439.out _; refine sqt ?_; refine blk_far ?_ NB433_439.out _; refine sqt ?_; exact BK433.out) hb); have n1_ := Aside0.mk (blk_below (g := gb439) (o := .cells #[.int .i64 ((rd_T30 l0_3 x59_2).f0), .int .i64 ((rd_T30 l0_3 x59_2).f1), .int .i64 ((rd_T30 l0_3 x59_2).f2), .int .i64 ((rd_T30 l0_3 x59_2).f3)] 30 (0, 0)) (by refine sqt ?_; refine blk_put (cs := #[.int .i64 ((rd_T30 l0_3 x59_2).f0), .int .i64 ((rd_T30 l0_3 x59_2).f1), .int .i64 ((rd_T30 l0_3 x59_2).f2), .int .i64 0]) ?_ 3 _ rfl; refine sqt ?_; refine blk_put (cs := #[.int .i64 ((rd_T30 l0_3 x59_2).f0), .int .i64 ((rd_T30 l0_3 x59_2).f1), .int .i64 0, .int .i64 0]) ?_ 2 _ rfl; refine sqt ?_; refine blk_put (cs := #[.int .i64 ((rd_T30 l0_3 x59_2).f0), .int .i64 0, .int .i64 0, .int .i64 0]) ?_ 1 _ rfl; refine sqt ?_; refine blk_put (cs := #[.int .i64 0, .int .i64 0, .int .i64 0, .int .i64 0]) ?_ 0 _ rfl; refine sqt ?_; exact BK439.out) hb); have n2_ := sqs HB hb; clear BK433; clear BK439; clear HB; have BK433 := n0_; have BK439 := n1_; have HB := n2_; clear n0_ n1_ n2_; (try clear hb)))
       go_ret
       exact sqe HB
      replace c33 := Bool.eq_false_iff.mpr c33
      subst c33
      have H1 : ((impl_ValOk.f k2 ((rd_T30 l0_3 x59_2).f0) ((rd_T30 l0_3 x59_2).f1) ((rd_T30 l0_3 x59_2).f2) ((rd_T30 l0_3 x59_2).f3)).bind fun t441 => (if t441 = true then (impl_AbsOk.l1 k2 l0_3 (l0_3.length : Int) (wrap64 (x59_2 + 1)) true l0_1 l0_2 l0_3 a0_4 l0_5) else (some false))) = some r := by rw [if_neg (show ¬ (false = true) by decide)] at H; exact H
      clear H
      have H := H1
      clear H1
      replace H := sqbi H
      obtain ⟨t441, A38, H⟩ := H
      replace H : (if t441 = true then (impl_AbsOk.l1 k2 l0_3 (l0_3.length : Int) (wrap64 (x59_2 + 1)) true l0_1 l0_2 l0_3 a0_4 l0_5) else (some false)) = some r := H
      rcases sqI (t441 = true) with c39 | c39
      ·replace c39 := Bool.eq_false_iff.mpr c39
       subst c39
       have H1 : (some false) = some r := by rw [if_neg (show ¬ (false = true) by decide)] at H; exact H
       clear H
       have H := H1
       clear H1
       obtain rfl := Option.some.inj H
       have p438 : 0 ≤ (x59_2 : Int) := sqd
       have q438 : x59_2 < (l0_3.length : Int) := sqd
       obtain ⟨ad438, e438, hx438_0, hx438_1, hx438_2, hx438_3⟩ := at_T30 HR0_3.out x59_2 p438 q438
       cases e438
       replace hx438_0 := sqa HB hx438_0
       replace hx438_1 := sqa HB hx438_1
       replace hx438_2 := sqa HB hx438_2
       replace hx438_3 := sqa HB hx438_3
       replace p438 := eq_true p438
       replace q438 := eq_true q438
       go_wp2_with (first | ((with_reducible refine gate_dst (N := 6) rfl ?_); (try (refine gate_guard (by rfl) ?_; dsimp only)); refine sqx 6 #[.int .i64 0, .int .i64 0, .int .i64 0, .int .i64 0] 30 ?_; intro gb439 hg w46 hbox hb; have BK439 := Aside0.mk hbox; have GW439 := sqg HB hg; have GE439 := sqg HB hg; have NB433_439 := sqn BK433 hg; have NB439_433 := sqm BK433 hg; replace BK433 := sqb BK433 hb; replace HB := sqs HB hb; clear hb hbox hg; have hnb47 := NB439_433.out; have hnc47 := NB433_439.out; obtain ⟨hcz48_0, hcz48_1, hcz48_2, hcz48_3, hfz48_0, hfz48_1, hfz48_2, hfz48_3⟩ := sqc4 BK439) | ((with_reducible refine gate_callee (f := 144) rfl ?_); refine sqL (some 64) Try.func144 #[.agg #[.int .i64 ((rd_T30 l0_3 x59_2).f0), .int .i64 ((rd_T30 l0_3 x59_2).f1), .int .i64 ((rd_T30 l0_3 x59_2).f2), .int .i64 ((rd_T30 l0_3 x59_2).f3)]] ?_; (with_reducible refine (impl_Val_none.calls ((rd_T30 l0_3 x59_2).f0) ((rd_T30 l0_3 x59_2).f1) ((rd_T30 l0_3 x59_2).f2) ((rd_T30 l0_3 x59_2).f3) false _ A32.out).mono ?_); rintro e w49 ⟨rfl, hb⟩; refine ⟨_, rfl, ?_⟩; have n0_ := Aside0.mk (blk_below (g := gb433) (o := .cells #[.bool true, .slice A0_1 l0_1.length c0_1, .slice A0_2 l0_2.length c0_2, .slice (some ad438) l0_3.length c0_3, .int .i64 a0_4, .slice A0_5 l0_5.length c0_5] 78 (0, 0)) (by refine sqt ?_; refine blk_far ?_ NB433_439.out _; refine sqt ?_; refine blk_far ?_ NB433_439.out _; refine sqt ?_; refine blk_far ?_ NB433_439.out _; refine sqt ?_; refine blk_far ?_ NB433_439.out _; refine sqt ?_; exact BK433.out) hb); have n1_ := Aside0.mk (blk_below (g := gb439) (o := .cells #[.int .i64 ((rd_T30 l0_3 x59_2).f0), .int .i64 ((rd_T30 l0_3 x59_2).f1), .int .i64 ((rd_T30 l0_3 x59_2).f2), .int .i64 ((rd_T30 l0_3 x59_2).f3)] 30 (0, 0)) (by refine sqt ?_; refine blk_put (cs := #[.int .i64 ((rd_T30 l0_3 x59_2).f0), .int .i64 ((rd_T30 l0_3 x59_2).f1), .int .i64 ((rd_T30 l0_3 x59_2).f2), .int .i64 0]) ?_ 3 _ rfl; refine sqt ?_; refine blk_put (cs := #[.int .i64 ((rd_T30 l0_3 x59_2).f0), .int .i64 ((rd_T30 l0_3 x59_2).f1), .int .i64 0, .int .i64 0]) ?_ 2 _ rfl; refine sqt ?_; refine blk_put (cs := #[.int .i64 ((rd_T30 l0_3 x59_2).f0), .int .i64 0, .int .i64 0, .int .i64 0]) ?_ 1 _ rfl; refine sqt ?_; refine blk_put (cs := #[.int .i64 0, .int .i64 0, .int .i64 0, .int .i64 0]) ?_ 0 _ rfl; refine sqt ?_; exact BK439.out) hb); have n2_ := sqs HB hb; clear BK433; clear BK439; clear HB; have BK433 := n0_; have BK439 := n1_; have HB := n2_; clear n0_ n1_ n2_; (try clear hb); obtain ⟨hcz50_0, hcz50_1, hcz50_2, hcz50_3, hfz50_0, hfz50_1, hfz50_2, hfz50_3⟩ := sqc4 BK439) | (go_at_call 18; (with_reducible refine (impl_ValOk.calls k2 ((rd_T30 l0_3 x59_2).f0) ((rd_T30 l0_3 x59_2).f1) ((rd_T30 l0_3 x59_2).f2) ((rd_T30 l0_3 x59_2).f3) false _ A38.out).mono ?_); rintro e w51 ⟨rfl, hb⟩; refine sqM2 BK433 BK439 hb ?_; clear BK433 BK439; intro BK433 BK439; replace HB := sqs HB hb; (try clear hb)))
       go_ret
       exact sqe HB
      subst c39
      have H1 : (impl_AbsOk.l1 k2 l0_3 (l0_3.length : Int) (wrap64 (x59_2 + 1)) true l0_1 l0_2 l0_3 a0_4 l0_5) = some r := by rw [if_pos rfl] at H; exact H
      clear H
      have H := H1
      clear H1
      have H' := Aside0.mk H
      clear H
      have p438 : 0 ≤ (x59_2 : Int) := sqd
      have q438 : x59_2 < (l0_3.length : Int) := sqd
      obtain ⟨ad438, e438, hx438_0, hx438_1, hx438_2, hx438_3⟩ := at_T30 HR0_3.out x59_2 p438 q438
      cases e438
      replace hx438_0 := sqa HB hx438_0
      replace hx438_1 := sqa HB hx438_1
      replace hx438_2 := sqa HB hx438_2
      replace hx438_3 := sqa HB hx438_3
      replace p438 := eq_true p438
      replace q438 := eq_true q438
      go_wp2_with (first | ((with_reducible refine gate_dst (N := 6) rfl ?_); (try (refine gate_guard (by rfl) ?_; dsimp only)); refine sqx 6 #[.int .i64 0, .int .i64 0, .int .i64 0, .int .i64 0] 30 ?_; intro gb439 hg w40 hbox hb; have BK439 := Aside0.mk hbox; have GW439 := sqg HB hg; have GE439 := sqg HB hg; have NB433_439 := sqn BK433 hg; have NB439_433 := sqm BK433 hg; replace BK433 := sqb BK433 hb; replace HB := sqs HB hb; clear hb hbox hg; have hnb41 := NB439_433.out; have hnc41 := NB433_439.out; obtain ⟨hcz42_0, hcz42_1, hcz42_2, hcz42_3, hfz42_0, hfz42_1, hfz42_2, hfz42_3⟩ := sqc4 BK439) | ((with_reducible refine gate_callee (f := 144) rfl ?_); refine sqL (some 64) Try.func144 #[.agg #[.int .i64 ((rd_T30 l0_3 x59_2).f0), .int .i64 ((rd_T30 l0_3 x59_2).f1), .int .i64 ((rd_T30 l0_3 x59_2).f2), .int .i64 ((rd_T30 l0_3 x59_2).f3)]] ?_; (with_reducible refine (impl_Val_none.calls ((rd_T30 l0_3 x59_2).f0) ((rd_T30 l0_3 x59_2).f1) ((rd_T30 l0_3 x59_2).f2) ((rd_T30 l0_3 x59_2).f3) false _ A32.out).mono ?_); rintro e w43 ⟨rfl, hb⟩; refine ⟨_, rfl, ?_⟩; have n0_ := Aside0.mk (blk_below (g := gb433) (o := .cells #[.bool true, .slice A0_1 l0_1.length c0_1, .slice A0_2 l0_2.length c0_2, .slice (some ad438) l0_3.length c0_3, .int .i64 a0_4, .slice A0_5 l0_5.length c0_5] 78 (0, 0)) (by refine sqt ?_; refine blk_far ?_ NB433_439.out _; refine sqt ?_; refine blk_far ?_ NB433_439.out _; refine sqt ?_; refine blk_far ?_ NB433_439.out _; refine sqt ?_; refine blk_far ?_ NB433_439.out _; refine sqt ?_; exact BK433.out) hb); have n1_ := Aside0.mk (blk_below (g := gb439) (o := .cells #[.int .i64 ((rd_T30 l0_3 x59_2).f0), .int .i64 ((rd_T30 l0_3 x59_2).f1), .int .i64 ((rd_T30 l0_3 x59_2).f2), .int .i64 ((rd_T30 l0_3 x59_2).f3)] 30 (0, 0)) (by refine sqt ?_; refine blk_put (cs := #[.int .i64 ((rd_T30 l0_3 x59_2).f0), .int .i64 ((rd_T30 l0_3 x59_2).f1), .int .i64 ((rd_T30 l0_3 x59_2).f2), .int .i64 0]) ?_ 3 _ rfl; refine sqt ?_; refine blk_put (cs := #[.int .i64 ((rd_T30 l0_3 x59_2).f0), .int .i64 ((rd_T30 l0_3 x59_2).f1), .int .i64 0, .int .i64 0]) ?_ 2 _ rfl; refine sqt ?_; refine blk_put (cs := #[.int .i64 ((rd_T30 l0_3 x59_2).f0), .int .i64 0, .int .i64 0, .int .i64 0]) ?_ 1 _ rfl; refine sqt ?_; refine blk_put (cs := #[.int .i64 0, .int .i64 0, .int .i64 0, .int .i64 0]) ?_ 0 _ rfl; refine sqt ?_; exact BK439.out) hb); have n2_ := sqs HB hb; clear BK433; clear BK439; clear HB; have BK433 := n0_; have BK439 := n1_; have HB := n2_; clear n0_ n1_ n2_; (try clear hb); obtain ⟨hcz44_0, hcz44_1, hcz44_2, hcz44_3, hfz44_0, hfz44_1, hfz44_2, hfz44_3⟩ := sqc4 BK439) | (go_at_call 18; (with_reducible refine (impl_ValOk.calls k2 ((rd_T30 l0_3 x59_2).f0) ((rd_T30 l0_3 x59_2).f1) ((rd_T30 l0_3 x59_2).f2) ((rd_T30 l0_3 x59_2).f3) true _ A38.out).mono ?_); rintro e w45 ⟨rfl, hb⟩; refine sqM2 BK433 BK439 hb ?_; clear BK433 BK439; intro BK433 BK439; replace HB := sqs HB hb; (try clear hb)))
      go_roundg k2
      case measure => have := HK1.out; have := HK2.out; omega
      case rel => exact ⟨(wrap64 (x59_2 + 1)), (by first | rfl | (simp; done) | (simp [*]; done)), H', ⟨by have := HK1.out; have := HK2.out; omega⟩, sqk BK433, sqh HB⟩
     have c29b0 := decide_eq_false c29
     clear c29
     have H' := Aside0.mk H
     clear H
     obtain ⟨hcz52_0, hcz52_1, hcz52_2, hcz52_3, hcz52_4, hcz52_5, hfz52_0, hfz52_1, hfz52_2, hfz52_3, hfz52_4, hfz52_5⟩ := sqc6 BK433
     go_wp2
     go_loopg [74] k2 (fun kq v74 w' => ∃ (x74_3 : Int), v74 = .int .i64 x74_3 ∧ Aside0 (impl_AbsOk.l2 kq l0_2 (l0_2.length : Int) x74_3 true l0_1 l0_2 l0_3 a0_4 l0_5 = some r) ∧ Aside0 (kq ≤ k2) ∧ Aside0 (w'.heap[gb433]? = some (.cells #[.bool true, (.slice A0_1 l0_1.length c0_1), (.slice A0_2 l0_2.length c0_2), (.slice A0_3 l0_3.length c0_3), .int .i64 a0_4, (.slice A0_5 l0_5.length c0_5)] 78 (0, 0))) ∧ Aside0 (Below w.heap.size w w'))
     case atStart => exact ⟨(0), (by first | rfl | (simp; done) | (simp [*]; done)), H', ⟨Nat.le_refl _⟩, sqk BK433, sqh HB⟩
     case round =>
      clear H'
      obtain ⟨x74_3, rfl, HA, HK3, BK433, HB⟩ := hrel
      cases gk with
      | zero => exact absurd HA.out (by simp [impl_AbsOk.l2])
      | succ k3 =>
       have H := HA.out
       clear HA
       simp only [impl_AbsOk.l2] at H
       replace H := sqi H
       rcases H with ⟨c53, H⟩ | ⟨c53, H⟩
       ·have c53b0 := decide_eq_false c53
        clear c53
        replace H := sqbi H
        obtain ⟨t445, A66, H⟩ := H
        replace H : (if t445 = true then (some (a0_4 == (l0_1.length : Int))) else (some false)) = some r := H
        rcases sqI (t445 = true) with c67 | c67
        ·replace c67 := Bool.eq_false_iff.mpr c67
         subst c67
         have H1 : (some false) = some r := by rw [if_neg (show ¬ (false = true) by decide)] at H; exact H
         clear H
         have H := H1
         clear H1
         obtain rfl := Option.some.inj H
         obtain ⟨hcz71_0, hcz71_1, hcz71_2, hcz71_3, hcz71_4, hcz71_5, hfz71_0, hfz71_1, hfz71_2, hfz71_3, hfz71_4, hfz71_5⟩ := sqc6 BK433
         go_wp2_with (first | ((with_reducible refine gate_callee (f := 31) rfl ?_); refine sqL (some 84) Try.func31 #[.agg #[.int .i64 a0_4, .slice A0_5 l0_5.length c0_5]] ?_; (with_reducible refine (impl_GapsOk.calls k3 a0_4 _ _ l0_5 false _ ?side1 ?side2 A66.out).mono ?_); (case side1 => exact sqC (Kd.C_below HR0_5.out HB.out)); (case side2 => exact HC0_5.out); rintro e w72 ⟨rfl, hb⟩; refine ⟨_, rfl, ?_⟩; replace BK433 := sqb BK433 hb; replace HB := sqs HB hb; (try clear hb)))
         go_ret
         exact sqe HB
        subst c67
        have H1 : (some (a0_4 == (l0_1.length : Int))) = some r := by rw [if_pos rfl] at H; exact H
        clear H
        have H := H1
        clear H1
        obtain rfl := Option.some.inj H
        obtain ⟨hcz68_0, hcz68_1, hcz68_2, hcz68_3, hcz68_4, hcz68_5, hfz68_0, hfz68_1, hfz68_2, hfz68_3, hfz68_4, hfz68_5⟩ := sqc6 BK433
        go_wp2_with (first | ((with_reducible refine gate_callee (f := 31) rfl ?_); refine sqL (some 84) Try.func31 #[.agg #[.int .i64 a0_4, .slice A0_5 l0_5.length c0_5]] ?_; (with_reducible refine (impl_GapsOk.calls k3 a0_4 _ _ l0_5 true _ ?side1 ?side2 A66.out).mono ?_); (case side1 => exact sqC (Kd.C_below HR0_5.out HB.out)); (case side2 => exact HC0_5.out); rintro e w69 ⟨rfl, hb⟩; refine ⟨_, rfl, ?_⟩; replace BK433 := sqb BK433 hb; replace HB := sqs HB hb; (try clear hb); obtain ⟨hcz70_0, hcz70_1, hcz70_2, hcz70_3, hcz70_4, hcz70_5, hfz70_0, hfz70_1, hfz70_2, hfz70_3, hfz70_4, hfz70_5⟩ := sqc6 BK433))
        go_ret
        exact sqe HB
       have c53b0 := decide_eq_true c53
       clear c53
       replace H := sqi H
       rcases H with ⟨c54, H⟩ | ⟨c54, H⟩
       ·exact absurd H (by simp)
       have c54b0 := decide_eq_true c54
       clear c54
       replace H := sqi H
       rcases H with ⟨c55, H⟩ | ⟨c55, H⟩
       ·exact absurd H (by simp)
       have c55b0 := decide_eq_true c55
       clear c55
       replace H := sqbi H
       obtain ⟨t444, A56, H⟩ := H
       replace H : (if t444 = true then (impl_AbsOk.l2 k3 l0_2 (l0_2.length : Int) (wrap64 (x74_3 + 1)) true l0_1 l0_2 l0_3 a0_4 l0_5) else (some false)) = some r := H
       rcases sqI (t444 = true) with c57 | c57
       ·replace c57 := Bool.eq_false_iff.mpr c57
        subst c57
        have H1 : (some false) = some r := by rw [if_neg (show ¬ (false = true) by decide)] at H; exact H
        clear H
        have H := H1
        clear H1
        obtain rfl := Option.some.inj H
        have p442 : 0 ≤ (x74_3 : Int) := sqd
        have q442 : x74_3 < (l0_2.length : Int) := sqd
        obtain ⟨ad442, A442_1, c442_1, e442, hx442_0, hx442_1, hx442_2, hx442_3, hx442_4, hx442_5, hl442_1, hi442_1⟩ := at_T132 HR0_2.out x74_3 p442 q442
        cases e442
        replace hx442_0 := sqa HB hx442_0
        replace hx442_1 := sqa HB hx442_1
        replace hx442_2 := sqa HB hx442_2
        replace hx442_3 := sqa HB hx442_3
        replace hx442_4 := sqa HB hx442_4
        replace hx442_5 := sqa HB hx442_5
        have HR442_1 := Aside0.mk hi442_1
        have HC442_1 := Aside0.mk hl442_1
        clear hi442_1 hl442_1
        replace p442 := eq_true p442
        replace q442 := eq_true q442
        go_wp2_with (first | ((with_reducible refine gate_dst (N := 8) rfl ?_); (try (refine gate_guard (by rfl) ?_; dsimp only)); refine sqx 8 #[.bool false, .slice none 0 0, .int .i64 0, .int .i64 0, .int .i64 0, .int .i64 0] 132 ?_; intro gb443 hg w62 hbox hb; have BK443 := Aside0.mk hbox; have GW443 := sqg HB hg; have GE443 := sqg HB hg; have NB433_443 := sqn BK433 hg; have NB443_433 := sqm BK433 hg; replace BK433 := sqb BK433 hb; replace HB := sqs HB hb; clear hb hbox hg; have hnb63 := NB443_433.out; have hnc63 := NB433_443.out; obtain ⟨hcz64_0, hcz64_1, hcz64_2, hcz64_3, hcz64_4, hcz64_5, hfz64_0, hfz64_1, hfz64_2, hfz64_3, hfz64_4, hfz64_5⟩ := sqc6 BK443) | ((with_reducible refine gate_callee (f := 145) rfl ?_); refine sqL (some 79) Try.func145 #[.agg #[.bool ((rd_T132 l0_2 x74_3).f0), .slice A442_1 ((rd_T132 l0_2 x74_3).f1).length c442_1, .int .i64 ((rd_T132 l0_2 x74_3).f2.f0), .int .i64 ((rd_T132 l0_2 x74_3).f2.f1), .int .i64 ((rd_T132 l0_2 x74_3).f2.f2), .int .i64 ((rd_T132 l0_2 x74_3).f2.f3)]] ?_; (with_reducible refine (impl_refOk.calls k3 ((rd_T132 l0_2 x74_3).f0) _ _ ((rd_T132 l0_2 x74_3).f1) ((rd_T132 l0_2 x74_3).f2.f0) ((rd_T132 l0_2 x74_3).f2.f1) ((rd_T132 l0_2 x74_3).f2.f2) ((rd_T132 l0_2 x74_3).f2.f3) false _ ?side1 ?side2 A56.out).mono ?_); (case side1 => exact Kd.C_below HR442_1.out (sqB HB)); (case side2 => exact HC442_1.out); rintro e w65 ⟨rfl, hb⟩; refine ⟨_, rfl, ?_⟩; have n0_ := Aside0.mk (blk_below (g := gb433) (o := .cells #[.bool true, .slice A0_1 l0_1.length c0_1, .slice (some ad442) l0_2.length c0_2, .slice A0_3 l0_3.length c0_3, .int .i64 a0_4, .slice A0_5 l0_5.length c0_5] 78 (0, 0)) (by refine sqt ?_; refine blk_far ?_ NB433_443.out _; refine sqt ?_; refine blk_far ?_ NB433_443.out _; refine sqt ?_; refine blk_far ?_ NB433_443.out _; refine sqt ?_; refine blk_far ?_ NB433_443.out _; refine sqt ?_; refine blk_far ?_ NB433_443.out _; refine sqt ?_; refine blk_far ?_ NB433_443.out _; refine sqt ?_; exact BK433.out) hb); have n1_ := Aside0.mk (blk_below (g := gb443) (o := .cells #[.bool ((rd_T132 l0_2 x74_3).f0), .slice A442_1 ((rd_T132 l0_2 x74_3).f1).length c442_1, .int .i64 ((rd_T132 l0_2 x74_3).f2.f0), .int .i64 ((rd_T132 l0_2 x74_3).f2.f1), .int .i64 ((rd_T132 l0_2 x74_3).f2.f2), .int .i64 ((rd_T132 l0_2 x74_3).f2.f3)] 132 (0, 0)) (by refine sqt ?_; refine blk_put (cs := #[.bool ((rd_T132 l0_2 x74_3).f0), .slice A442_1 ((rd_T132 l0_2 x74_3).f1).length c442_1, .int .i64 ((rd_T132 l0_2 x74_3).f2.f0), .int .i64 ((rd_T132 l0_2 x74_3).f2.f1), .int .i64 ((rd_T132 l0_2 x74_3).f2.f2), .int .i64 0]) ?_ 5 _ rfl; refine sqt ?_; refine blk_put (cs := #[.bool ((rd_T132 l0_2 x74_3).f0), .slice A442_1 ((rd_T132 l0_2 x74_3).f1).length c442_1, .int .i64 ((rd_T132 l0_2 x74_3).f2.f0), .int .i64 ((rd_T132 l0_2 x74_3).f2.f1), .int .i64 0, .int .i64 0]) ?_ 4 _ rfl; refine sqt ?_; refine blk_put (cs := #[.bool ((rd_T132 l0_2 x74_3).f0), .slice A442_1 ((rd_T132 l0_2 x74_3).f1).length c442_1, .int .i64 ((rd_T132 l0_2 x74_3).f2.f0), .int .i64 0, .int .i64 0, .int .i64 0]) ?_ 3 _ rfl; refine sqt ?_; refine blk_put (cs := #[.bool ((rd_T132 l0_2 x74_3).f0), .slice A442_1 ((rd_T132 l0_2 x74_3).f1).length c442_1, .int .i64 0, .int .i64 0, .int .i64 0, .int .i64 0]) ?_ 2 _ rfl; refine sqt ?_; refine blk_put (cs := #[.bool ((rd_T132 l0_2 x74_3).f0), .slice none 0 0, .int .i64 0, .int .i64 0, .int .i64 0, .int .i64 0]) ?_ 1 _ rfl; refine sqt ?_; refine blk_put (cs := #[.bool false, .slice none 0 0, .int .i64 0, .int .i64 0, .int .i64 0, .int .i64 0]) ?_ 0 _ rfl; refine sqt ?_; exact BK443.out) hb); have n2_ := sqs HB hb; clear BK433; clear BK443; clear HB; have BK433 := n0_; have BK443 := n1_; have HB := n2_; clear n0_ n1_ n2_; (try clear hb)))
        go_ret
        exact sqe HB
       subst c57
       have H1 : (impl_AbsOk.l2 k3 l0_2 (l0_2.length : Int) (wrap64 (x74_3 + 1)) true l0_1 l0_2 l0_3 a0_4 l0_5) = some r := by rw [if_pos rfl] at H; exact H
       clear H
       have H := H1
       clear H1
       have H' := Aside0.mk H
       clear H
       have p442 : 0 ≤ (x74_3 : Int) := sqd
       have q442 : x74_3 < (l0_2.length : Int) := sqd
       obtain ⟨ad442, A442_1, c442_1, e442, hx442_0, hx442_1, hx442_2, hx442_3, hx442_4, hx442_5, hl442_1, hi442_1⟩ := at_T132 HR0_2.out x74_3 p442 q442
       cases e442
       replace hx442_0 := sqa HB hx442_0
       replace hx442_1 := sqa HB hx442_1
       replace hx442_2 := sqa HB hx442_2
       replace hx442_3 := sqa HB hx442_3
       replace hx442_4 := sqa HB hx442_4
       replace hx442_5 := sqa HB hx442_5
       have HR442_1 := Aside0.mk hi442_1
       have HC442_1 := Aside0.mk hl442_1
       clear hi442_1 hl442_1
       replace p442 := eq_true p442
       replace q442 := eq_true q442
       go_wp2_with (first | ((with_reducible refine gate_dst (N := 8) rfl ?_); (try (refine gate_guard (by rfl) ?_; dsimp only)); refine sqx 8 #[.bool false, .slice none 0 0, .int .i64 0, .int .i64 0, .int .i64 0, .int .i64 0] 132 ?_; intro gb443 hg w58 hbox hb; have BK443 := Aside0.mk hbox; have GW443 := sqg HB hg; have GE443 := sqg HB hg; have NB433_443 := sqn BK433 hg; have NB443_433 := sqm BK433 hg; replace BK433 := sqb BK433 hb; replace HB := sqs HB hb; clear hb hbox hg; have hnb59 := NB443_433.out; have hnc59 := NB433_443.out; obtain ⟨hcz60_0, hcz60_1, hcz60_2, hcz60_3, hcz60_4, hcz60_5, hfz60_0, hfz60_1, hfz60_2, hfz60_3, hfz60_4, hfz60_5⟩ := sqc6 BK443) | ((with_reducible refine gate_callee (f := 145) rfl ?_); refine sqL (some 79) Try.func145 #[.agg #[.bool ((rd_T132 l0_2 x74_3).f0), .slice A442_1 ((rd_T132 l0_2 x74_3).f1).length c442_1, .int .i64 ((rd_T132 l0_2 x74_3).f2.f0), .int .i64 ((rd_T132 l0_2 x74_3).f2.f1), .int .i64 ((rd_T132 l0_2 x74_3).f2.f2), .int .i64 ((rd_T132 l0_2 x74_3).f2.f3)]] ?_; (with_reducible refine (impl_refOk.calls k3 ((rd_T132 l0_2 x74_3).f0) _ _ ((rd_T132 l0_2 x74_3).f1) ((rd_T132 l0_2 x74_3).f2.f0) ((rd_T132 l0_2 x74_3).f2.f1) ((rd_T132 l0_2 x74_3).f2.f2) ((rd_T132 l0_2 x74_3).f2.f3) true _ ?side1 ?side2 A56.out).mono ?_); (case side1 => exact Kd.C_below HR442_1.out (sqB HB)); (case side2 => exact HC442_1.out); rintro e w61 ⟨rfl, hb⟩; refine ⟨_, rfl, ?_⟩; have n0_ := Aside0.mk (blk_below (g := gb433) (o := .cells #[.bool true, .slice A0_1 l0_1.length c0_1, .slice (some ad442) l0_2.length c0_2, .slice A0_3 l0_3.length c0_3, .int .i64 a0_4, .slice A0_5 l0_5.length c0_5] 78 (0, 0)) (by refine sqt ?_; refine blk_far ?_ NB433_443.out _; refine sqt ?_; refine blk_far ?_ NB433_443.out _; refine sqt ?_; refine blk_far ?_ NB433_443.out _; refine sqt ?_; refine blk_far ?_ NB433_443.out _; refine sqt ?_; refine blk_far ?_ NB433_443.out _; refine sqt ?_; refine blk_far ?_ NB433_443.out _; refine sqt ?_; exact BK433.out) hb); have n1_ := Aside0.mk (blk_below (g := gb443) (o := .cells #[.bool ((rd_T132 l0_2 x74_3).f0), .slice A442_1 ((rd_T132 l0_2 x74_3).f1).length c442_1, .int .i64 ((rd_T132 l0_2 x74_3).f2.f0), .int .i64 ((rd_T132 l0_2 x74_3).f2.f1), .int .i64 ((rd_T132 l0_2 x74_3).f2.f2), .int .i64 ((rd_T132 l0_2 x74_3).f2.f3)] 132 (0, 0)) (by refine sqt ?_; refine blk_put (cs := #[.bool ((rd_T132 l0_2 x74_3).f0), .slice A442_1 ((rd_T132 l0_2 x74_3).f1).length c442_1, .int .i64 ((rd_T132 l0_2 x74_3).f2.f0), .int .i64 ((rd_T132 l0_2 x74_3).f2.f1), .int .i64 ((rd_T132 l0_2 x74_3).f2.f2), .int .i64 0]) ?_ 5 _ rfl; refine sqt ?_; refine blk_put (cs := #[.bool ((rd_T132 l0_2 x74_3).f0), .slice A442_1 ((rd_T132 l0_2 x74_3).f1).length c442_1, .int .i64 ((rd_T132 l0_2 x74_3).f2.f0), .int .i64 ((rd_T132 l0_2 x74_3).f2.f1), .int .i64 0, .int .i64 0]) ?_ 4 _ rfl; refine sqt ?_; refine blk_put (cs := #[.bool ((rd_T132 l0_2 x74_3).f0), .slice A442_1 ((rd_T132 l0_2 x74_3).f1).length c442_1, .int .i64 ((rd_T132 l0_2 x74_3).f2.f0), .int .i64 0, .int .i64 0, .int .i64 0]) ?_ 3 _ rfl; refine sqt ?_; refine blk_put (cs := #[.bool ((rd_T132 l0_2 x74_3).f0), .slice A442_1 ((rd_T132 l0_2 x74_3).f1).length c442_1, .int .i64 0, .int .i64 0, .int .i64 0, .int .i64 0]) ?_ 2 _ rfl; refine sqt ?_; refine blk_put (cs := #[.bool ((rd_T132 l0_2 x74_3).f0), .slice none 0 0, .int .i64 0, .int .i64 0, .int .i64 0, .int .i64 0]) ?_ 1 _ rfl; refine sqt ?_; refine blk_put (cs := #[.bool false, .slice none 0 0, .int .i64 0, .int .i64 0, .int .i64 0, .int .i64 0]) ?_ 0 _ rfl; refine sqt ?_; exact BK443.out) hb); have n2_ := sqs HB hb; clear BK433; clear BK443; clear HB; have BK433 := n0_; have BK443 := n1_; have HB := n2_; clear n0_ n1_ n2_; (try clear hb)))
       go_roundg k3
       case measure => have := HK1.out; have := HK2.out; have := HK3.out; omega
       case rel => exact ⟨(wrap64 (x74_3 + 1)), (by first | rfl | (simp; done) | (simp [*]; done)), H', ⟨by have := HK1.out; have := HK2.out; have := HK3.out; omega⟩, sqk BK433, sqh HB⟩

end Go.Proofs.Ytkekcenlleebeaa.PFnExactAbsIn
