/- Functions of the program as plain Lean functions, and that calls of them come to what these tell. Conditions: those in each law. -/
import Derived.Test.YtkekcenlleebeaaSq
import Derived.Test.YtkekcenlleebeaaDFnExactAbsIn
import Derived.Test.YtkekcenlleebeaaQFnExactAbsInx0
import Derived.Test.YtkekcenlleebeaaQFnExactAbsInx7
import Derived.Test.YtkekcenlleebeaaQFnExactAbsInx15
import Derived.Test.YtkekcenlleebeaaQFnExactAbsInx17
namespace Go.Proofs.Ytkekcenlleebeaa.PFnExactAbsIn
open Go.RowKit Go.Proofs.Ytkekcenlleebeaa.Sq Go.Proofs.YtkekcenlleebeaaW.PrintWords Go.Proofs.YtkekcenlleebeaaW.PrintLast Go.Proofs.YtkekcenlleebeaaW.PrintMore
attribute [local go_sem] max2_int min2_int max_two min_two max_three min_three max_four min_four   -- for this text's walks alone
set_option linter.unusedVariables false
set_option linter.unusedSimpArgs false

/-! ### spec_l12RefIn: function 160 -/
set_option maxHeartbeats 8000000 in
set_option maxRecDepth 100000 in
theorem spec_l12RefIn.calls (k : Nat) (a0_0 : Bool) (A0_1 : Option Addr) (c0_1 : Nat) (l0_1 : List Int) (a0_2 : Int) (a0_3 : Int) (a0_4 : Int) (a0_5 : Int) (a1_0 : Bool) (A1_1 : Option Addr) (c1_1 : Nat) (l1_1 : List Int) (a1_2 : Int) (a1_3 : Int) (a1_4 : Int) (a1_5 : Int) (r : Bool) (w : World) (hr0_1 : Kd.C (Kd.int .i64) w A0_1 l0_1.length l0_1) (hc0_1 : l0_1.length ≤ c0_1) (hr1_1 : Kd.C (Kd.int .i64) w A1_1 l1_1.length l1_1) (hc1_1 : l1_1.length ≤ c1_1) (h : spec_l12RefIn.f k a0_0 l0_1 a0_2 a0_3 a0_4 a0_5 a1_0 l1_1 a1_2 a1_3 a1_4 a1_5 = some r) :
  Calls Try.prog 160 #[.agg #[.bool a0_0, .slice A0_1 l0_1.length c0_1, .int .i64 a0_2, .int .i64 a0_3, .int .i64 a0_4, .int .i64 a0_5], .agg #[.bool a1_0, .slice A1_1 l1_1.length c1_1, .int .i64 a1_2, .int .i64 a1_3, .int .i64 a1_4, .int .i64 a1_5]] w fun e w' => e = .returned (.bool r) ∧ Below w.heap.size w w' := by
 have hu132 := Try.underlying132
 have hu30 := Try.underlying30
 have HR0_1 := Aside0.mk hr0_1
 have HC0_1 := Aside0.mk hc0_1
 clear hr0_1 hc0_1
 have HR1_1 := Aside0.mk hr1_1
 have HC1_1 := Aside0.mk hc1_1
 clear hr1_1 hc1_1
 have HB := Aside0.mk (Below.refl w.heap.size w)
 have H : (if a0_0 = true then (spec_l12RefIn.j0 k (!a1_0) a0_0 l0_1 a0_2 a0_3 a0_4 a0_5 a1_0 l1_1 a1_2 a1_3 a1_4 a1_5) else (spec_l12RefIn.j0 k false a0_0 l0_1 a0_2 a0_3 a0_4 a0_5 a1_0 l1_1 a1_2 a1_3 a1_4 a1_5)) = some r := h
 clear h
 have HC3 := Aside0.mk H
 clear H
 go_enter Try.func160, Try.ntmps160
 go_upto_region 1 with (first | ((with_reducible refine gate_dst (N := 2) rfl ?_); refine sqx 2 #[.bool a0_0, .slice A0_1 l0_1.length c0_1, .int .i64 a0_2, .int .i64 a0_3, .int .i64 a0_4, .int .i64 a0_5] 132 ?_; intro gb330 hg w4 hbox hb; have BK330 := Aside0.mk hbox; have GW330 := sqg HB hg; have GE330 := sqg HB hg; replace HB := sqs HB hb; clear hb hbox hg) | ((with_reducible refine gate_dst (N := 3) rfl ?_); refine sqx 3 #[.bool a1_0, .slice A1_1 l1_1.length c1_1, .int .i64 a1_2, .int .i64 a1_3, .int .i64 a1_4, .int .i64 a1_5] 132 ?_; intro gb331 hg w5 hbox hb; have BK331 := Aside0.mk hbox; have GW331 := sqg HB hg; have GE331 := sqg HB hg; have NB330_331 := sqn BK330 hg; have NB331_330 := sqm BK330 hg; replace BK330 := sqb BK330 hb; replace HB := sqs HB hb; clear hb hbox hg))
 repeat (go_quiet (first | ((with_reducible refine gate_dst (N := 2) rfl ?_); refine sqx 2 #[.bool a0_0, .slice A0_1 l0_1.length c0_1, .int .i64 a0_2, .int .i64 a0_3, .int .i64 a0_4, .int .i64 a0_5] 132 ?_; intro gb330 hg w4 hbox hb; have BK330 := Aside0.mk hbox; have GW330 := sqg HB hg; have GE330 := sqg HB hg; replace HB := sqs HB hb; clear hb hbox hg) | ((with_reducible refine gate_dst (N := 3) rfl ?_); refine sqx 3 #[.bool a1_0, .slice A1_1 l1_1.length c1_1, .int .i64 a1_2, .int .i64 a1_3, .int .i64 a1_4, .int .i64 a1_5] 132 ?_; intro gb331 hg w5 hbox hb; have BK331 := Aside0.mk hbox; have GW331 := sqg HB hg; have GE331 := sqg HB hg; have NB330_331 := sqn BK330 hg; have NB331_330 := sqm BK330 hg; replace BK330 := sqb BK330 hb; replace HB := sqs HB hb; clear hb hbox hg)); go_upto_region 1 with (first | ((with_reducible refine gate_dst (N := 2) rfl ?_); refine sqx 2 #[.bool a0_0, .slice A0_1 l0_1.length c0_1, .int .i64 a0_2, .int .i64 a0_3, .int .i64 a0_4, .int .i64 a0_5] 132 ?_; intro gb330 hg w4 hbox hb; have BK330 := Aside0.mk hbox; have GW330 := sqg HB hg; have GE330 := sqg HB hg; replace HB := sqs HB hb; clear hb hbox hg) | ((with_reducible refine gate_dst (N := 3) rfl ?_); refine sqx 3 #[.bool a1_0, .slice A1_1 l1_1.length c1_1, .int .i64 a1_2, .int .i64 a1_3, .int .i64 a1_4, .int .i64 a1_5] 132 ?_; intro gb331 hg w5 hbox hb; have BK331 := Aside0.mk hbox; have GW331 := sqg HB hg; have GE331 := sqg HB hg; have NB330_331 := sqn BK330 hg; have NB331_330 := sqm BK330 hg; replace BK330 := sqb BK330 hb; replace HB := sqs HB hb; clear hb hbox hg)))
 (try simp only [Act.put, List.setIfInBounds_toArray, List.set_cons_zero, List.set_cons_succ])
 go_cut [12] (fun v12 wc => ∃ (kq : Nat) (x12_2 : Bool), v12 = .bool x12_2 ∧ Aside0 (spec_l12RefIn.j0 kq x12_2 a0_0 l0_1 a0_2 a0_3 a0_4 a0_5 a1_0 l1_1 a1_2 a1_3 a1_4 a1_5 = some r) ∧ Aside0 (kq ≤ k) ∧ Aside0 (wc.heap[gb330]? = some (.cells #[.bool a0_0, (.slice A0_1 l0_1.length c0_1), .int .i64 a0_2, .int .i64 a0_3, .int .i64 a0_4, .int .i64 a0_5] 132 (0, 0))) ∧ Aside0 (wc.heap[gb331]? = some (.cells #[.bool a1_0, (.slice A1_1 l1_1.length c1_1), .int .i64 a1_2, .int .i64 a1_3, .int .i64 a1_4, .int .i64 a1_5] 132 (0, 0))) ∧ Aside0 (Below w.heap.size w wc))
 case first =>
  have H := HC3.out
  clear HC3
  rcases sqI (a0_0 = true) with c6 | c6
  ·replace c6 := Bool.eq_false_iff.mpr c6
   subst c6
   have H1 : (spec_l12RefIn.j0 k false false l0_1 a0_2 a0_3 a0_4 a0_5 a1_0 l1_1 a1_2 a1_3 a1_4 a1_5) = some r := by rw [if_neg (show ¬ (false = true) by decide)] at H; exact H
   clear H
   have H := H1
   clear H1
   have H' := Aside0.mk H
   clear H
   have hnb10 := NB330_331.out
   have hnc10 := NB331_330.out
   obtain ⟨hcz11_0, hcz11_1, hcz11_2, hcz11_3, hcz11_4, hcz11_5, hfz11_0, hfz11_1, hfz11_2, hfz11_3, hfz11_4, hfz11_5⟩ := sqc6 BK330
   go_wp2
   repeat (go_quiet (fail); try go_wp2)
   go_meet
   case rel => exact ⟨_, (false), (by first | rfl | (simp; done) | (simp [*]; done)), H', ⟨by first | omega | exact Nat.le_refl _⟩, sqk BK330, sqk BK331, sqh HB⟩
  subst c6
  have H1 : (spec_l12RefIn.j0 k (!a1_0) true l0_1 a0_2 a0_3 a0_4 a0_5 a1_0 l1_1 a1_2 a1_3 a1_4 a1_5) = some r := by rw [if_pos rfl] at H; exact H
  clear H
  have H := H1
  clear H1
  have H' := Aside0.mk H
  clear H
  have hnb7 := NB330_331.out
  have hnc7 := NB331_330.out
  obtain ⟨hcz8_0, hcz8_1, hcz8_2, hcz8_3, hcz8_4, hcz8_5, hfz8_0, hfz8_1, hfz8_2, hfz8_3, hfz8_4, hfz8_5⟩ := sqc6 BK330
  obtain ⟨hcz9_0, hcz9_1, hcz9_2, hcz9_3, hcz9_4, hcz9_5, hfz9_0, hfz9_1, hfz9_2, hfz9_3, hfz9_4, hfz9_5⟩ := sqc6 BK331
  go_wp2
  repeat (go_quiet (fail); try go_wp2)
  go_meet
  case rel => exact ⟨_, (!a1_0), (by first | rfl | (simp; done) | (simp [*]; done)), H', ⟨by first | omega | exact Nat.le_refl _⟩, sqk BK330, sqk BK331, sqh HB⟩
 case rest =>
  clear HC3
  obtain ⟨kq, x12_2, rfl, HA, HJ2, BK330, BK331, HB⟩ := hcut
  cases kq with
  | zero => exact absurd HA.out (by simp [spec_l12RefIn.j0])
  | succ kj2 =>
   have H := HA.out
   clear HA
   simp only [spec_l12RefIn.j0] at H
   by_cases c12 : x12_2 = true
   ·subst c12
    have H1 : (some false) = some r := by rw [if_pos rfl] at H; exact H
    clear H
    have H := H1
    clear H1
    obtain rfl := Option.some.inj H
    go_wp2
    repeat (go_quiet (fail); try go_wp2)
    go_ret
    exact sqe HB
   replace c12 := Bool.eq_false_iff.mpr c12
   subst c12
   have H1 : (spec_l12RefIn.l0 kj2 0 a0_0 l0_1 a0_2 a0_3 a0_4 a0_5 a1_0 l1_1 a1_2 a1_3 a1_4 a1_5) = some r := by rw [if_neg (show ¬ (false = true) by decide)] at H; exact H
   clear H
   have H := H1
   clear H1
   have H' := Aside0.mk H
   clear H
   go_wp2
   repeat (go_quiet (fail); try go_wp2)
   go_loopg [5] kj2 (fun kq v5 w' => ∃ (x5_2 : Int), v5 = .int .i64 x5_2 ∧ Aside0 (spec_l12RefIn.l0 kq x5_2 a0_0 l0_1 a0_2 a0_3 a0_4 a0_5 a1_0 l1_1 a1_2 a1_3 a1_4 a1_5 = some r) ∧ Aside0 (kq ≤ kj2) ∧ Aside0 (w'.heap[gb330]? = some (.cells #[.bool a0_0, (.slice A0_1 l0_1.length c0_1), .int .i64 a0_2, .int .i64 a0_3, .int .i64 a0_4, .int .i64 a0_5] 132 (0, 0))) ∧ Aside0 (w'.heap[gb331]? = some (.cells #[.bool a1_0, (.slice A1_1 l1_1.length c1_1), .int .i64 a1_2, .int .i64 a1_3, .int .i64 a1_4, .int .i64 a1_5] 132 (0, 0))) ∧ Aside0 (Below w.heap.size w w'))
   case atStart => exact ⟨(0), (by first | rfl | (simp; done) | (simp [*]; done)), H', ⟨Nat.le_refl _⟩, sqk BK330, sqk BK331, sqh HB⟩
   case round =>
    clear H'
    obtain ⟨x5_2, rfl, HA, HK2, BK330, BK331, HB⟩ := hrel
    cases gk with
    | zero => exact absurd HA.out (by simp [spec_l12RefIn.l0])
    | succ k2 =>
     have H := HA.out
     clear HA
     simp only [spec_l12RefIn.l0] at H
     replace H := sqi H
     rcases H with ⟨c13, H⟩ | ⟨c13, H⟩
     ·have c13b0 := decide_eq_false c13
      clear c13
      replace H := sqbi H
      obtain ⟨t334, A23, H⟩ := H
      replace H : (some t334) = some r := H
      obtain rfl := Option.some.inj H
      have hnb24 := NB330_331.out
      have hnc24 := NB331_330.out
      obtain ⟨hcz25_0, hcz25_1, hcz25_2, hcz25_3, hcz25_4, hcz25_5, hfz25_0, hfz25_1, hfz25_2, hfz25_3, hfz25_4, hfz25_5⟩ := sqc6 BK330
      obtain ⟨hcz26_0, hcz26_1, hcz26_2, hcz26_3, hcz26_4, hcz26_5, hfz26_0, hfz26_1, hfz26_2, hfz26_3, hfz26_4, hfz26_5⟩ := sqc6 BK331
      go_wp2_with (first | (go_at_call 209; (with_reducible refine (spec_ValIn.calls k2 a0_2 a0_3 a0_4 a0_5 a1_2 a1_3 a1_4 a1_5 t334 _ A23.out).mono ?_); rintro e w27 ⟨rfl, hb⟩; refine sqM2 BK330 BK331 hb ?_; clear BK330 BK331; intro BK330 BK331; replace HB := sqs HB hb; (try clear hb)))
      repeat (go_quiet (first | (go_at_call 209; (with_reducible refine (spec_ValIn.calls k2 a0_2 a0_3 a0_4 a0_5 a1_2 a1_3 a1_4 a1_5 t334 _ A23.out).mono ?_); rintro e w27 ⟨rfl, hb⟩; refine sqM2 BK330 BK331 hb ?_; clear BK330 BK331; intro BK330 BK331; replace HB := sqs HB hb; (try clear hb))); try go_wp2_with (first | (go_at_call 209; (with_reducible refine (spec_ValIn.calls k2 a0_2 a0_3 a0_4 a0_5 a1_2 a1_3 a1_4 a1_5 t334 _ A23.out).mono ?_); rintro e w27 ⟨rfl, hb⟩; refine sqM2 BK330 BK331 hb ?_; clear BK330 BK331; intro BK330 BK331; replace HB := sqs HB hb; (try clear hb))))
      go_ret
      exact sqe HB
     have c13b0 := decide_eq_true c13
     clear c13
     replace H := sqi H
     rcases H with ⟨c14, H⟩ | ⟨c14, H⟩
     ·exact absurd H (by simp)
     have c14b0 := decide_eq_true c14
     clear c14
     replace H := sqbi H
     obtain ⟨t333, A15, H⟩ := H
     replace H : (if t333 < 0 then (some false) else (spec_l12RefIn.l0 k2 (wrap64 (x5_2 + 1)) a0_0 l0_1 a0_2 a0_3 a0_4 a0_5 a1_0 l1_1 a1_2 a1_3 a1_4 a1_5)) = some r := H
     replace H := sqj H
     rcases H with ⟨c16, H⟩ | ⟨c16, H⟩
     ·have c16b0 := decide_eq_true c16
      clear c16
      obtain rfl := Option.some.inj H
      have hnb17 := NB330_331.out
      have hnc17 := NB331_330.out
      obtain ⟨hcz18_0, hcz18_1, hcz18_2, hcz18_3, hcz18_4, hcz18_5, hfz18_0, hfz18_1, hfz18_2, hfz18_3, hfz18_4, hfz18_5⟩ := sqc6 BK330
      obtain ⟨hcz19_0, hcz19_1, hcz19_2, hcz19_3, hcz19_4, hcz19_5, hfz19_0, hfz19_1, hfz19_2, hfz19_3, hfz19_4, hfz19_5⟩ := sqc6 BK331
      have p332 : 0 ≤ (x5_2 : Int) := sqd
      have q332 : x5_2 < (l0_1.length : Int) := sqd
      obtain ⟨ad332, e332, hx332_0⟩ := Kd.at_int HR0_1.out x5_2 p332 q332
      cases e332
      replace hx332_0 := sqa HB hx332_0
      replace p332 := eq_true p332
      replace q332 := eq_true q332
      go_wp2_with (first | (go_at_call 208; (with_reducible refine (spec_l12Place.calls k2 _ _ l1_1 (rd l0_1 x5_2) t333 _ ?side1 ?side2 A15.out).mono ?_); (case side1 => exact sqC (Kd.C_below HR1_1.out HB.out)); (case side2 => exact HC1_1.out); rintro e w' ⟨rfl, ⟨nd, rfl⟩⟩; (try first | exact ⟨rfl, _, World.drewN_drewN _ _ _⟩ | exact ⟨rfl, _, Eq.trans (World.drewN_drewN _ _ _) (congrArg (World.drewN _) (Nat.add_assoc _ _ _))⟩)))
      repeat (go_quiet (first | (go_at_call 208; (with_reducible refine (spec_l12Place.calls k2 _ _ l1_1 (rd l0_1 x5_2) t333 _ ?side1 ?side2 A15.out).mono ?_); (case side1 => exact sqC (Kd.C_below HR1_1.out HB.out)); (case side2 => exact HC1_1.out); rintro e w' ⟨rfl, ⟨nd, rfl⟩⟩; (try first | exact ⟨rfl, _, World.drewN_drewN _ _ _⟩ | exact ⟨rfl, _, Eq.trans (World.drewN_drewN _ _ _) (congrArg (World.drewN _) (Nat.add_assoc _ _ _))⟩))); try go_wp2_with (first | (go_at_call 208; (with_reducible refine (spec_l12Place.calls k2 _ _ l1_1 (rd l0_1 x5_2) t333 _ ?side1 ?side2 A15.out).mono ?_); (case side1 => exact sqC (Kd.C_below HR1_1.out HB.out)); (case side2 => exact HC1_1.out); rintro e w' ⟨rfl, ⟨nd, rfl⟩⟩; (try first | exact ⟨rfl, _, World.drewN_drewN _ _ _⟩ | exact ⟨rfl, _, Eq.trans (World.drewN_drewN _ _ _) (congrArg (World.drewN _) (Nat.add_assoc _ _ _))⟩))))
      go_ret
      exact sqe HB
     have c16b0 := decide_eq_false c16
     clear c16
     have H' := Aside0.mk H
     clear H
     have hnb20 := NB330_331.out
     have hnc20 := NB331_330.out
     obtain ⟨hcz21_0, hcz21_1, hcz21_2, hcz21_3, hcz21_4, hcz21_5, hfz21_0, hfz21_1, hfz21_2, hfz21_3, hfz21_4, hfz21_5⟩ := sqc6 BK330
     obtain ⟨hcz22_0, hcz22_1, hcz22_2, hcz22_3, hcz22_4, hcz22_5, hfz22_0, hfz22_1, hfz22_2, hfz22_3, hfz22_4, hfz22_5⟩ := sqc6 BK331
     have p332 : 0 ≤ (x5_2 : Int) := sqd
     have q332 : x5_2 < (l0_1.length : Int) := sqd
     obtain ⟨ad332, e332, hx332_0⟩ := Kd.at_int HR0_1.out x5_2 p332 q332
     cases e332
     replace hx332_0 := sqa HB hx332_0
     replace p332 := eq_true p332
     replace q332 := eq_true q332
     go_wp2_with (first | (go_at_call 208; (with_reducible refine (spec_l12Place.calls k2 _ _ l1_1 (rd l0_1 x5_2) t333 _ ?side1 ?side2 A15.out).mono ?_); (case side1 => exact sqC (Kd.C_below HR1_1.out HB.out)); (case side2 => exact HC1_1.out); rintro e w' ⟨rfl, ⟨nd, rfl⟩⟩; (try first | exact ⟨rfl, _, World.drewN_drewN _ _ _⟩ | exact ⟨rfl, _, Eq.trans (World.drewN_drewN _ _ _) (congrArg (World.drewN _) (Nat.add_assoc _ _ _))⟩)))
     repeat (go_quiet (first | (go_at_call 208; (with_reducible refine (spec_l12Place.calls k2 _ _ l1_1 (rd l0_1 x5_2) t333 _ ?side1 ?side2 A15.out).mono ?_); (case side1 => exact sqC (Kd.C_below HR1_1.out HB.out)); (case side2 => exact HC1_1.out); rintro e w' ⟨rfl, ⟨nd, rfl⟩⟩; (try first | exact ⟨rfl, _, World.drewN_drewN _ _ _⟩ | exact ⟨rfl, _, Eq.trans (World.drewN_drewN _ _ _) (congrArg (World.drewN _) (Nat.add_assoc _ _ _))⟩))); try go_wp2_with (first | (go_at_call 208; (with_reducible refine (spec_l12Place.calls k2 _ _ l1_1 (rd l0_1 x5_2) t333 _ ?side1 ?side2 A15.out).mono ?_); (case side1 => exact sqC (Kd.C_below HR1_1.out HB.out)); (case side2 => exact HC1_1.out); rintro e w' ⟨rfl, ⟨nd, rfl⟩⟩; (try first | exact ⟨rfl, _, World.drewN_drewN _ _ _⟩ | exact ⟨rfl, _, Eq.trans (World.drewN_drewN _ _ _) (congrArg (World.drewN _) (Nat.add_assoc _ _ _))⟩))))
     go_roundg k2
     case measure => have := HJ2.out; have := HK2.out; omega
     case rel => exact ⟨(wrap64 (x5_2 + 1)), (by first | rfl | (simp; done) | (simp [*]; done)), H', ⟨by have := HJ2.out; have := HK2.out; omega⟩, sqk BK330, sqk BK331, sqh HB⟩

/-! ### spec_l12ValsIn: function 161 -/
def spec_l12ValsIn.T4 : Bool × List (List Nat × List Nat) := (true, [([], []), ([], []), ([0, 1], [0, 1]), ([2], [2]), ([], []), ([], []), ([4, 5], [4, 5]), ([6], [6]), ([3, 7], [3, 7]), ([8], [8])])
def spec_l12ValsIn.B4 : List Nat := [0, 0, 3, 7, 0, 0, 48, 112, 255, 511]
theorem spec_l12ValsIn.tab4 : rtab .any (opsOf Try.f161 4) = spec_l12ValsIn.T4 := by kernel_rfl
theorem spec_l12ValsIn.bits4 : waitsOk spec_l12ValsIn.T4.2 spec_l12ValsIn.B4 = true := by kernel_rfl
set_option maxHeartbeats 8000000 in
set_option maxRecDepth 100000 in
theorem spec_l12ValsIn.calls (k : Nat) (A0 : Option Addr) (c0 : Nat) (l0 : List (S30)) (A1 : Option Addr) (c1 : Nat) (l1 : List (S30)) (r : Bool) (w : World) (hr0 : Kd.C k30 w A0 l0.length l0) (hc0 : l0.length ≤ c0) (hr1 : Kd.C k30 w A1 l1.length l1) (hc1 : l1.length ≤ c1) (h : spec_l12ValsIn.f k l0 l1 = some r) :
  Calls Try.prog 161 #[.slice A0 l0.length c0, .slice A1 l1.length c1] w fun e w' => e = .returned (.bool r) ∧ Below w.heap.size w w' := by
 have hu30 := Try.underlying30
 have HR0 := Aside0.mk hr0
 have HC0 := Aside0.mk hc0
 clear hr0 hc0
 have HR1 := Aside0.mk hr1
 have HC1 := Aside0.mk hc1
 clear hr1 hc1
 have HB := Aside0.mk (Below.refl w.heap.size w)
 have H : (spec_l12ValsIn.l0 k l0 l1 0) = some r := h
 clear h
 have H' := Aside0.mk H
 clear H
 go_enter Try.func161, Try.ntmps161
 go_wp2
 go_loopg [5] k (fun kq v5 w' => ∃ (x5_1 : Int), v5 = .int .i64 x5_1 ∧ Aside0 (spec_l12ValsIn.l0 kq l0 l1 x5_1 = some r) ∧ Aside0 (kq ≤ k) ∧ Aside0 (Below w.heap.size w w'))
 case atStart => exact ⟨(0), (by first | rfl | (simp; done) | (simp [*]; done)), H', ⟨Nat.le_refl _⟩, sqh HB⟩
 case round =>
  clear H'
  obtain ⟨x5_1, rfl, HA, HK1, HB⟩ := hrel
  cases gk with
  | zero => exact absurd HA.out (by simp [spec_l12ValsIn.l0])
  | succ k1 =>
   have H := HA.out
   clear HA
   simp only [spec_l12ValsIn.l0] at H
   replace H := sqi H
   rcases H with ⟨c3, H⟩ | ⟨c3, H⟩
   ·have c3b0 := decide_eq_false c3
    clear c3
    obtain rfl := Option.some.inj H
    go_wp2
    go_ret
    exact sqe HB
   have c3b0 := decide_eq_true c3
   clear c3
   replace H := sqi H
   rcases H with ⟨c4, H⟩ | ⟨c4, H⟩
   ·exact absurd H (by simp)
   have c4b0 := decide_eq_true c4
   clear c4
   replace H := sqi H
   rcases H with ⟨c5, H⟩ | ⟨c5, H⟩
   ·exact absurd H (by simp)
   have c5b0 := decide_eq_true c5
   clear c5
   replace H := sqbi H
   obtain ⟨t337, A6, H⟩ := H
   replace H : (if t337 = true then (spec_l12ValsIn.l0 k1 l0 l1 (wrap64 (x5_1 + 1))) else (some false)) = some r := H
   rcases sqI (t337 = true) with c7 | c7
   ·replace c7 := Bool.eq_false_iff.mpr c7
    subst c7
    have H1 : (some false) = some r := by rw [if_neg (show ¬ (false = true) by decide)] at H; exact H
    clear H
    have H := H1
    clear H1
    obtain rfl := Option.some.inj H
    try go_wp2
    replace HB := Aside0.mk (below_drew1 HB.out)
    have p335 : 0 ≤ (x5_1 : Int) := sqd
    have q335 : x5_1 < (l0.length : Int) := sqd
    obtain ⟨ad335, e335, hx335_0, hx335_1, hx335_2, hx335_3⟩ := at_T30 HR0.out x5_1 p335 q335
    have hw335_3 := hx335_3
    have hw335_2 := hx335_2
    have hw335_1 := hx335_1
    have hw335_0 := hx335_0
    cases e335
    replace hx335_0 := sqa HB hx335_0
    replace hx335_1 := sqa HB hx335_1
    replace hx335_2 := sqa HB hx335_2
    replace hx335_3 := sqa HB hx335_3
    replace p335 := eq_true p335
    replace q335 := eq_true q335
    have p336 : 0 ≤ (x5_1 : Int) := sqd
    have q336 : x5_1 < (l1.length : Int) := sqd
    obtain ⟨ad336, e336, hx336_0, hx336_1, hx336_2, hx336_3⟩ := at_T30 HR1.out x5_1 p336 q336
    have hw336_3 := hx336_3
    have hw336_2 := hx336_2
    have hw336_1 := hx336_1
    have hw336_0 := hx336_0
    cases e336
    replace hx336_0 := sqa HB hx336_0
    replace hx336_1 := sqa HB hx336_1
    replace hx336_2 := sqa HB hx336_2
    replace hx336_3 := sqa HB hx336_3
    replace p336 := eq_true p336
    replace q336 := eq_true q336
    refine start_ (n := 10) (S := fun w' => w'.cell? (ad335.add ((x5_1).toNat * 4)) = some (.int .i64 ((rd_T30 l0 x5_1).f0)) ∧ w'.cell? ⟨(ad335.add ((x5_1).toNat * 4)).block, (ad335.add ((x5_1).toNat * 4)).off + 1, none⟩ = some (.int .i64 ((rd_T30 l0 x5_1).f1)) ∧ w'.cell? ⟨(ad335.add ((x5_1).toNat * 4)).block, (ad335.add ((x5_1).toNat * 4)).off + 2, none⟩ = some (.int .i64 ((rd_T30 l0 x5_1).f2)) ∧ w'.cell? ⟨(ad335.add ((x5_1).toNat * 4)).block, (ad335.add ((x5_1).toNat * 4)).off + 3, none⟩ = some (.int .i64 ((rd_T30 l0 x5_1).f3)) ∧ w'.cell? (ad336.add ((x5_1).toNat * 4)) = some (.int .i64 ((rd_T30 l1 x5_1).f0)) ∧ w'.cell? ⟨(ad336.add ((x5_1).toNat * 4)).block, (ad336.add ((x5_1).toNat * 4)).off + 1, none⟩ = some (.int .i64 ((rd_T30 l1 x5_1).f1)) ∧ w'.cell? ⟨(ad336.add ((x5_1).toNat * 4)).block, (ad336.add ((x5_1).toNat * 4)).off + 2, none⟩ = some (.int .i64 ((rd_T30 l1 x5_1).f2)) ∧ w'.cell? ⟨(ad336.add ((x5_1).toNat * 4)).block, (ad336.add ((x5_1).toNat * 4)).off + 3, none⟩ = some (.int .i64 ((rd_T30 l1 x5_1).f3))) (ds := []) #[false, false, false, false, false, false, false, false, false, false] (by kernel_rfl) rfl rfl ⟨(sqa HB hw335_0 :), (sqa HB hw335_1 :), (sqa HB hw335_2 :), (sqa HB hw335_3 :), (sqa HB hw336_0 :), (sqa HB hw336_1 :), (sqa HB hw336_2 :), (sqa HB hw336_3 :)⟩ (fun hHeld => ?_); refine with_tabW spec_l12ValsIn.tab4 spec_l12ValsIn.bits4 (fun HT_ HW_ => ?_)
    generalize wr.drew = w10 at HB hx335_0 hx335_1 hx335_2 hx335_3 hx336_0 hx336_1 hx336_2 hx336_3 hHeld ⊢
    refine sqp HT_ 0 12 ?_
    refine sqp HT_ 1 13 ?_
    refine sqp HT_ 2 14 ?_
    refine sqp HT_ 4 16 ?_
    refine sqp HT_ 5 17 ?_
    refine sqp HT_ 6 18 ?_
    refine sqw HT_ HW_ 3 15 hHeld ?_
    refine sqw HT_ HW_ 7 19 hHeld ?_
    refine sqo HT_ 8 20 (fun K hK => ?_)
    refine sqG Try.func209 #[.agg #[.int .i64 ((rd_T30 l0 x5_1).f0), .int .i64 ((rd_T30 l0 x5_1).f1), .int .i64 ((rd_T30 l0 x5_1).f2), .int .i64 ((rd_T30 l0 x5_1).f3)], .agg #[.int .i64 ((rd_T30 l1 x5_1).f0), .int .i64 ((rd_T30 l1 x5_1).f1), .int .i64 ((rd_T30 l1 x5_1).f2), .int .i64 ((rd_T30 l1 x5_1).f3)]] ?_
    with_reducible refine (spec_ValIn.calls k1 ((rd_T30 l0 x5_1).f0) ((rd_T30 l0 x5_1).f1) ((rd_T30 l0 x5_1).f2) ((rd_T30 l0 x5_1).f3) ((rd_T30 l1 x5_1).f0) ((rd_T30 l1 x5_1).f1) ((rd_T30 l1 x5_1).f2) ((rd_T30 l1 x5_1).f3) false _ A6.out).mono ?_
    rintro e w11 ⟨rfl, hb⟩
    refine ⟨_, rfl, ?_⟩
    replace HB := sqs HB hb
    (try clear hb)
    refine hK.out _ _ ⟨(sqa HB hw335_0 :), (sqa HB hw335_1 :), (sqa HB hw335_2 :), (sqa HB hw335_3 :), (sqa HB hw336_0 :), (sqa HB hw336_1 :), (sqa HB hw336_2 :), (sqa HB hw336_3 :)⟩ (fun hHeld => ?_)
    clear hK K
    refine sqnm ?_
    refine sqp HT_ 9 21 ?_
    refine done_ (done_of HT_.out (by kernel_rfl)) ?_
    try go_wp2
    go_ret
    exact sqe HB
   subst c7
   have H1 : (spec_l12ValsIn.l0 k1 l0 l1 (wrap64 (x5_1 + 1))) = some r := by rw [if_pos rfl] at H; exact H
   clear H
   have H := H1
   clear H1
   have H' := Aside0.mk H
   clear H
   try go_wp2
   replace HB := Aside0.mk (below_drew1 HB.out)
   have p335 : 0 ≤ (x5_1 : Int) := sqd
   have q335 : x5_1 < (l0.length : Int) := sqd
   obtain ⟨ad335, e335, hx335_0, hx335_1, hx335_2, hx335_3⟩ := at_T30 HR0.out x5_1 p335 q335
   have hw335_3 := hx335_3
   have hw335_2 := hx335_2
   have hw335_1 := hx335_1
   have hw335_0 := hx335_0
   cases e335
   replace hx335_0 := sqa HB hx335_0
   replace hx335_1 := sqa HB hx335_1
   replace hx335_2 := sqa HB hx335_2
   replace hx335_3 := sqa HB hx335_3
   replace p335 := eq_true p335
   replace q335 := eq_true q335
   have p336 : 0 ≤ (x5_1 : Int) := sqd
   have q336 : x5_1 < (l1.length : Int) := sqd
   obtain ⟨ad336, e336, hx336_0, hx336_1, hx336_2, hx336_3⟩ := at_T30 HR1.out x5_1 p336 q336
   have hw336_3 := hx336_3
   have hw336_2 := hx336_2
   have hw336_1 := hx336_1
   have hw336_0 := hx336_0
   cases e336
   replace hx336_0 := sqa HB hx336_0
   replace hx336_1 := sqa HB hx336_1
   replace hx336_2 := sqa HB hx336_2
   replace hx336_3 := sqa HB hx336_3
   replace p336 := eq_true p336
   replace q336 := eq_true q336
   refine start_ (n := 10) (S := fun w' => w'.cell? (ad335.add ((x5_1).toNat * 4)) = some (.int .i64 ((rd_T30 l0 x5_1).f0)) ∧ w'.cell? ⟨(ad335.add ((x5_1).toNat * 4)).block, (ad335.add ((x5_1).toNat * 4)).off + 1, none⟩ = some (.int .i64 ((rd_T30 l0 x5_1).f1)) ∧ w'.cell? ⟨(ad335.add ((x5_1).toNat * 4)).block, (ad335.add ((x5_1).toNat * 4)).off + 2, none⟩ = some (.int .i64 ((rd_T30 l0 x5_1).f2)) ∧ w'.cell? ⟨(ad335.add ((x5_1).toNat * 4)).block, (ad335.add ((x5_1).toNat * 4)).off + 3, none⟩ = some (.int .i64 ((rd_T30 l0 x5_1).f3)) ∧ w'.cell? (ad336.add ((x5_1).toNat * 4)) = some (.int .i64 ((rd_T30 l1 x5_1).f0)) ∧ w'.cell? ⟨(ad336.add ((x5_1).toNat * 4)).block, (ad336.add ((x5_1).toNat * 4)).off + 1, none⟩ = some (.int .i64 ((rd_T30 l1 x5_1).f1)) ∧ w'.cell? ⟨(ad336.add ((x5_1).toNat * 4)).block, (ad336.add ((x5_1).toNat * 4)).off + 2, none⟩ = some (.int .i64 ((rd_T30 l1 x5_1).f2)) ∧ w'.cell? ⟨(ad336.add ((x5_1).toNat * 4)).block, (ad336.add ((x5_1).toNat * 4)).off + 3, none⟩ = some (.int .i64 ((rd_T30 l1 x5_1).f3))) (ds := []) #[false, false, false, false, false, false, false, false, false, false] (by kernel_rfl) rfl rfl ⟨(sqa HB hw335_0 :), (sqa HB hw335_1 :), (sqa HB hw335_2 :), (sqa HB hw335_3 :), (sqa HB hw336_0 :), (sqa HB hw336_1 :), (sqa HB hw336_2 :), (sqa HB hw336_3 :)⟩ (fun hHeld => ?_); refine with_tabW spec_l12ValsIn.tab4 spec_l12ValsIn.bits4 (fun HT_ HW_ => ?_)
   generalize wr.drew = w8 at HB hx335_0 hx335_1 hx335_2 hx335_3 hx336_0 hx336_1 hx336_2 hx336_3 hHeld ⊢
   refine sqp HT_ 0 12 ?_
   refine sqp HT_ 1 13 ?_
   refine sqp HT_ 2 14 ?_
   refine sqp HT_ 4 16 ?_
   refine sqp HT_ 5 17 ?_
   refine sqp HT_ 6 18 ?_
   refine sqw HT_ HW_ 3 15 hHeld ?_
   refine sqw HT_ HW_ 7 19 hHeld ?_
   refine sqo HT_ 8 20 (fun K hK => ?_)
   refine sqG Try.func209 #[.agg #[.int .i64 ((rd_T30 l0 x5_1).f0), .int .i64 ((rd_T30 l0 x5_1).f1), .int .i64 ((rd_T30 l0 x5_1).f2), .int .i64 ((rd_T30 l0 x5_1).f3)], .agg #[.int .i64 ((rd_T30 l1 x5_1).f0), .int .i64 ((rd_T30 l1 x5_1).f1), .int .i64 ((rd_T30 l1 x5_1).f2), .int .i64 ((rd_T30 l1 x5_1).f3)]] ?_
   with_reducible refine (spec_ValIn.calls k1 ((rd_T30 l0 x5_1).f0) ((rd_T30 l0 x5_1).f1) ((rd_T30 l0 x5_1).f2) ((rd_T30 l0 x5_1).f3) ((rd_T30 l1 x5_1).f0) ((rd_T30 l1 x5_1).f1) ((rd_T30 l1 x5_1).f2) ((rd_T30 l1 x5_1).f3) true _ A6.out).mono ?_
   rintro e w9 ⟨rfl, hb⟩
   refine ⟨_, rfl, ?_⟩
   replace HB := sqs HB hb
   (try clear hb)
   refine hK.out _ _ ⟨(sqa HB hw335_0 :), (sqa HB hw335_1 :), (sqa HB hw335_2 :), (sqa HB hw335_3 :), (sqa HB hw336_0 :), (sqa HB hw336_1 :), (sqa HB hw336_2 :), (sqa HB hw336_3 :)⟩ (fun hHeld => ?_)
   clear hK K
   refine sqnm ?_
   refine sqp HT_ 9 21 ?_
   refine done_ (done_of HT_.out (by kernel_rfl)) ?_
   try go_wp2
   go_roundg k1
   case measure => have := HK1.out; omega
   case rel => exact ⟨(wrap64 (x5_1 + 1)), (by first | rfl | (simp; done) | (simp [*]; done)), H', ⟨by have := HK1.out; omega⟩, sqh HB⟩

/-! ### spec_l11Two: function 124 -/
set_option maxHeartbeats 8000000 in
set_option maxRecDepth 100000 in
theorem spec_l11Two.calls (k : Nat) (a0_0 : Int) (A0_1 : Option Addr) (c0_1 : Nat) (l0_1 : List Int) (a1_0 : Int) (A1_1 : Option Addr) (c1_1 : Nat) (l1_1 : List Int) (r : Bool) (w : World) (hr0_1 : Kd.C (Kd.int .i64) w A0_1 l0_1.length l0_1) (hc0_1 : l0_1.length ≤ c0_1) (hr1_1 : Kd.C (Kd.int .i64) w A1_1 l1_1.length l1_1) (hc1_1 : l1_1.length ≤ c1_1) (h : spec_l11Two.f k a0_0 l0_1 a1_0 l1_1 = some r) :
  Calls Try.prog 124 #[.agg #[.int .i64 a0_0, .slice A0_1 l0_1.length c0_1], .agg #[.int .i64 a1_0, .slice A1_1 l1_1.length c1_1]] w fun e w' => e = .returned (.bool r) ∧ Below w.heap.size w w' := by
 have hu41 := Try.underlying41
 have HR0_1 := Aside0.mk hr0_1
 have HC0_1 := Aside0.mk hc0_1
 clear hr0_1 hc0_1
 have HR1_1 := Aside0.mk hr1_1
 have HC1_1 := Aside0.mk hc1_1
 clear hr1_1 hc1_1
 have HB := Aside0.mk (Below.refl w.heap.size w)
 have H : ((spec_GapsOk.f k a0_0 l0_1).bind fun t340 => (if t340 = true then ((spec_GapsOk.f k a1_0 l1_1).bind fun t341 => (if t341 = true then (some (a0_0 == a1_0)) else (some false))) else (some false))) = some r := h
 clear h
 replace H := sqbi H
 obtain ⟨t340, A3, H⟩ := H
 replace H : (if t340 = true then ((spec_GapsOk.f k a1_0 l1_1).bind fun t341 => (if t341 = true then (some (a0_0 == a1_0)) else (some false))) else (some false)) = some r := H
 rcases sqI (t340 = true) with c4 | c4
 ·replace c4 := Bool.eq_false_iff.mpr c4
  subst c4
  have H1 : (some false) = some r := by rw [if_neg (show ¬ (false = true) by decide)] at H; exact H
  clear H
  have H := H1
  clear H1
  obtain rfl := Option.some.inj H
  go_enter Try.func124, Try.ntmps124
  go_wp2_with (first | ((with_reducible refine gate_dst (N := 2) rfl ?_); refine sqx 2 #[.int .i64 a0_0, .slice A0_1 l0_1.length c0_1] 41 ?_; intro gb338 hg w23 hbox hb; have BK338 := Aside0.mk hbox; have GW338 := sqg HB hg; have GE338 := sqg HB hg; replace HB := sqs HB hb; clear hb hbox hg) | ((with_reducible refine gate_dst (N := 3) rfl ?_); refine sqx 3 #[.int .i64 a1_0, .slice A1_1 l1_1.length c1_1] 41 ?_; intro gb339 hg w24 hbox hb; have BK339 := Aside0.mk hbox; have GW339 := sqg HB hg; have GE339 := sqg HB hg; have NB338_339 := sqn BK338 hg; have NB339_338 := sqm BK338 hg; replace BK338 := sqb BK338 hb; replace HB := sqs HB hb; clear hb hbox hg; have hnb25 := NB338_339.out; have hnc25 := NB339_338.out; obtain ⟨hcz26_0, hcz26_1, hfz26_0, hfz26_1⟩ := sqc2 BK338) | ((with_reducible refine gate_callee (f := 41) rfl ?_); refine sqL (some 6) Try.func41 #[.agg #[.int .i64 a0_0, .slice A0_1 l0_1.length c0_1]] ?_; (with_reducible refine (spec_GapsOk.calls k a0_0 _ _ l0_1 false _ ?side1 ?side2 A3.out).mono ?_); (case side1 => exact sqC (Kd.C_below HR0_1.out HB.out)); (case side2 => exact HC0_1.out); rintro e w27 ⟨rfl, hb⟩; refine ⟨_, rfl, ?_⟩; refine sqM2 BK338 BK339 hb ?_; clear BK338 BK339; intro BK338 BK339; replace HB := sqs HB hb; (try clear hb)))
  go_ret
  exact sqe HB
 subst c4
 have H1 : ((spec_GapsOk.f k a1_0 l1_1).bind fun t341 => (if t341 = true then (some (a0_0 == a1_0)) else (some false))) = some r := by rw [if_pos rfl] at H; exact H
 clear H
 have H := H1
 clear H1
 replace H := sqbi H
 obtain ⟨t341, A5, H⟩ := H
 replace H : (if t341 = true then (some (a0_0 == a1_0)) else (some false)) = some r := H
 rcases sqI (t341 = true) with c6 | c6
 ·replace c6 := Bool.eq_false_iff.mpr c6
  subst c6
  have H1 : (some false) = some r := by rw [if_neg (show ¬ (false = true) by decide)] at H; exact H
  clear H
  have H := H1
  clear H1
  obtain rfl := Option.some.inj H
  go_enter Try.func124, Try.ntmps124
  go_wp2_with (first | ((with_reducible refine gate_dst (N := 2) rfl ?_); refine sqx 2 #[.int .i64 a0_0, .slice A0_1 l0_1.length c0_1] 41 ?_; intro gb338 hg w16 hbox hb; have BK338 := Aside0.mk hbox; have GW338 := sqg HB hg; have GE338 := sqg HB hg; replace HB := sqs HB hb; clear hb hbox hg) | ((with_reducible refine gate_dst (N := 3) rfl ?_); refine sqx 3 #[.int .i64 a1_0, .slice A1_1 l1_1.length c1_1] 41 ?_; intro gb339 hg w17 hbox hb; have BK339 := Aside0.mk hbox; have GW339 := sqg HB hg; have GE339 := sqg HB hg; have NB338_339 := sqn BK338 hg; have NB339_338 := sqm BK338 hg; replace BK338 := sqb BK338 hb; replace HB := sqs HB hb; clear hb hbox hg; have hnb18 := NB338_339.out; have hnc18 := NB339_338.out; obtain ⟨hcz19_0, hcz19_1, hfz19_0, hfz19_1⟩ := sqc2 BK338) | ((with_reducible refine gate_callee (f := 41) rfl ?_); refine sqL (some 6) Try.func41 #[.agg #[.int .i64 a0_0, .slice A0_1 l0_1.length c0_1]] ?_; (with_reducible refine (spec_GapsOk.calls k a0_0 _ _ l0_1 true _ ?side1 ?side2 A3.out).mono ?_); (case side1 => exact sqC (Kd.C_below HR0_1.out HB.out)); (case side2 => exact HC0_1.out); rintro e w20 ⟨rfl, hb⟩; refine ⟨_, rfl, ?_⟩; refine sqM2 BK338 BK339 hb ?_; clear BK338 BK339; intro BK338 BK339; replace HB := sqs HB hb; (try clear hb); obtain ⟨hcz21_0, hcz21_1, hfz21_0, hfz21_1⟩ := sqc2 BK339) | (go_at_call 41; (with_reducible refine (spec_GapsOk.calls k a1_0 _ _ l1_1 false _ ?side1 ?side2 A5.out).mono ?_); (case side1 => exact sqC (Kd.C_below HR1_1.out HB.out)); (case side2 => exact HC1_1.out); rintro e w22 ⟨rfl, hb⟩; refine sqM2 BK338 BK339 hb ?_; clear BK338 BK339; intro BK338 BK339; replace HB := sqs HB hb; (try clear hb)))
  go_ret
  exact sqe HB
 subst c6
 have H1 : (some (a0_0 == a1_0)) = some r := by rw [if_pos rfl] at H; exact H
 clear H
 have H := H1
 clear H1
 obtain rfl := Option.some.inj H
 go_enter Try.func124, Try.ntmps124
 go_wp2_with (first | ((with_reducible refine gate_dst (N := 2) rfl ?_); refine sqx 2 #[.int .i64 a0_0, .slice A0_1 l0_1.length c0_1] 41 ?_; intro gb338 hg w7 hbox hb; have BK338 := Aside0.mk hbox; have GW338 := sqg HB hg; have GE338 := sqg HB hg; replace HB := sqs HB hb; clear hb hbox hg) | ((with_reducible refine gate_dst (N := 3) rfl ?_); refine sqx 3 #[.int .i64 a1_0, .slice A1_1 l1_1.length c1_1] 41 ?_; intro gb339 hg w8 hbox hb; have BK339 := Aside0.mk hbox; have GW339 := sqg HB hg; have GE339 := sqg HB hg; have NB338_339 := sqn BK338 hg; have NB339_338 := sqm BK338 hg; replace BK338 := sqb BK338 hb; replace HB := sqs HB hb; clear hb hbox hg; have hnb9 := NB338_339.out; have hnc9 := NB339_338.out; obtain ⟨hcz10_0, hcz10_1, hfz10_0, hfz10_1⟩ := sqc2 BK338) | ((with_reducible refine gate_callee (f := 41) rfl ?_); refine sqL (some 6) Try.func41 #[.agg #[.int .i64 a0_0, .slice A0_1 l0_1.length c0_1]] ?_; (with_reducible refine (spec_GapsOk.calls k a0_0 _ _ l0_1 true _ ?side1 ?side2 A3.out).mono ?_); (case side1 => exact sqC (Kd.C_below HR0_1.out HB.out)); (case side2 => exact HC0_1.out); rintro e w11 ⟨rfl, hb⟩; refine ⟨_, rfl, ?_⟩; refine sqM2 BK338 BK339 hb ?_; clear BK338 BK339; intro BK338 BK339; replace HB := sqs HB hb; (try clear hb); obtain ⟨hcz12_0, hcz12_1, hfz12_0, hfz12_1⟩ := sqc2 BK339) | (go_at_call 41; (with_reducible refine (spec_GapsOk.calls k a1_0 _ _ l1_1 true _ ?side1 ?side2 A5.out).mono ?_); (case side1 => exact sqC (Kd.C_below HR1_1.out HB.out)); (case side2 => exact HC1_1.out); rintro e w13 ⟨rfl, hb⟩; refine sqM2 BK338 BK339 hb ?_; clear BK338 BK339; intro BK338 BK339; replace HB := sqs HB hb; (try clear hb); obtain ⟨hcz14_0, hcz14_1, hfz14_0, hfz14_1⟩ := sqc2 BK338; obtain ⟨hcz15_0, hcz15_1, hfz15_0, hfz15_1⟩ := sqc2 BK339))
 go_ret
 exact sqe HB

end Go.Proofs.Ytkekcenlleebeaa.PFnExactAbsIn
