/- Functions of the program as plain Lean functions, and that calls of them come to what these tell. Conditions: those in each law. -/
import Derived.Test.YtnmgckdgmplddaaSq
import Derived.Test.YtnmgckdgmplddaaDFnExactAbsHas
import Derived.Test.YtnmgckdgmplddaaQFnExactAbsHasx0
import Derived.Test.YtnmgckdgmplddaaQFnExactAbsHasx16
import Derived.Test.YtnmgckdgmplddaaQFnExactAbsHasx18
namespace Go.Proofs.Ytnmgckdgmplddaa.PFnExactAbsHas
open Go.RowKit Go.Proofs.Ytnmgckdgmplddaa.Sq Go.Proofs.YtnmgckdgmplddaaW.PrintWords Go.Proofs.YtnmgckdgmplddaaW.PrintLast Go.Proofs.YtnmgckdgmplddaaW.PrintMore
attribute [local go_sem] max2_int min2_int max_two min_two max_three min_three max_four min_four   -- for this text's walks alone
set_option linter.unusedVariables false
set_option linter.unusedSimpArgs false

/-! ### impl_refOk: function 58 -/
def impl_refOk.T1 : Bool × List (List Nat × List Nat) := (true, [([], []), ([0], [0]), ([1], [1]), ([2], [2]), ([3, 2], [3]), ([4], [4]), ([5, 4], [4, 5]), ([6, 4, 4], [4, 6]), ([4], [4]), ([8, 4], [4, 8]), ([9, 4], [4, 9]), ([10, 4], [4, 10]), ([7, 11, 4], [4, 7, 11]), ([4, 12], [4, 12])])
def impl_refOk.B1 : List Nat := [0, 1, 3, 7, 15, 31, 63, 127, 31, 287, 799, 1823, 4095, 8191]
theorem impl_refOk.tab1 : rtab .any (opsOf Try.f58 1) = impl_refOk.T1 := by kernel_rfl
theorem impl_refOk.bits1 : waitsOk impl_refOk.T1.2 impl_refOk.B1 = true := by kernel_rfl
set_option maxHeartbeats 8000000 in
set_option maxRecDepth 100000 in
theorem impl_refOk.calls (k : Nat) (a0_0 : Bool) (A0_1 : Option Addr) (c0_1 : Nat) (l0_1 : List Int) (a0_2 : Int) (a0_3 : Int) (a0_4 : Int) (a0_5 : Int) (r : Bool) (w : World) (hr0_1 : Kd.C (Kd.int .i64) w A0_1 l0_1.length l0_1) (hc0_1 : l0_1.length ≤ c0_1) (h : impl_refOk.f k a0_0 l0_1 a0_2 a0_3 a0_4 a0_5 = some r) :
  Calls Try.prog 58 #[.agg #[.bool a0_0, .slice A0_1 l0_1.length c0_1, .int .i64 a0_2, .int .i64 a0_3, .int .i64 a0_4, .int .i64 a0_5]] w fun e w' => e = .returned (.bool r) ∧ Below w.heap.size w w' := by
 have hu63 := Try.underlying63
 have hu60 := Try.underlying60
 have HR0_1 := Aside0.mk hr0_1
 have HC0_1 := Aside0.mk hc0_1
 clear hr0_1 hc0_1
 have HB := Aside0.mk (Below.refl w.heap.size w)
 have H := h
 unfold impl_refOk.f at H
 clear h
 have HC2 := Aside0.mk H
 clear H
 go_enter Try.func58, Try.ntmps58
 go_upto_region 1 with (first | ((with_reducible refine gate_dst (N := 1) rfl ?_); (try (refine gate_guard (by rfl) ?_; dsimp only)); refine sqx 1 #[.bool a0_0, .slice A0_1 l0_1.length c0_1, .int .i64 a0_2, .int .i64 a0_3, .int .i64 a0_4, .int .i64 a0_5] 63 ?_; intro gb402 hg w3 hbox hb; have BK402 := Aside0.mk hbox; have GW402 := sqg HB hg; have GE402 := sqg HB hg; replace HB := sqs HB hb; clear hb hbox hg))
 (try simp only [Act.put, List.setIfInBounds_toArray, List.set_cons_zero, List.set_cons_succ])
 go_cut [19] (fun v19 wc => ∃ (kq : Nat) (x19_1 : Bool), v19 = .bool x19_1 ∧ Aside0 (impl_refOk.j0 kq x19_1 a0_0 l0_1 a0_2 a0_3 a0_4 a0_5 = some r) ∧ Aside0 (kq ≤ k) ∧ Aside0 (wc.heap[gb402]? = some (.cells #[.bool a0_0, (.slice A0_1 l0_1.length c0_1), .int .i64 a0_2, .int .i64 a0_3, .int .i64 a0_4, .int .i64 a0_5] 63 (0, 0))) ∧ Aside0 (Below w.heap.size w wc))
 case first =>
  have H := HC2.out
  clear HC2
  replace H := Option.bind_eq_some_iff.mp H
  obtain ⟨t403, A40, H⟩ := H
  try dsimp only at H
  have A4 := Aside0.mk A40
  clear A40
  rcases sqI (t403 = true) with c5 | c5
  ·replace c5 := Bool.eq_false_iff.mpr c5
   subst c5
   have H1 : (impl_refOk.j0 k true a0_0 l0_1 a0_2 a0_3 a0_4 a0_5) = some r := by rw [if_neg (show ¬ (false = true) by decide)] at H; exact H
   clear H
   have H := H1
   clear H1
   have H' := Aside0.mk H
   clear H
   try go_wp2
   replace BK402 := Aside0.mk (blk_drew BK402.out)
   replace HB := Aside0.mk (below_drew1 HB.out)
   refine start_ (n := 14) (S := fun w' => w'.cell? ⟨gb402, 0, none⟩ = some (.bool a0_0) ∧ w'.cell? ⟨gb402, 1, none⟩ = some (.slice A0_1 l0_1.length c0_1) ∧ w'.cell? ⟨gb402, 2, none⟩ = some (.int .i64 a0_2) ∧ w'.cell? ⟨gb402, 3, none⟩ = some (.int .i64 a0_3) ∧ w'.cell? ⟨gb402, 4, none⟩ = some (.int .i64 a0_4) ∧ w'.cell? ⟨gb402, 5, none⟩ = some (.int .i64 a0_5)) (ds := []) #[false, false, false, false, false, false, false, false, false, false, false, false, false, false] (by kernel_rfl) rfl rfl sqz (fun hHeld => ?_); refine with_tabW impl_refOk.tab1 impl_refOk.bits1 (fun HT_ HW_ => ?_)
   generalize w3.drew = w10 at BK402 HB hHeld ⊢
   refine sqp HT_ 0 6 ?_
   refine sqw HT_ HW_ 1 7 hHeld ?_
   refine sqo HT_ 2 8 (fun K hK => ?_)
   refine sqG Try.func57 #[.agg #[.int .i64 a0_2, .int .i64 a0_3, .int .i64 a0_4, .int .i64 a0_5]] ?_
   with_reducible refine (impl_ValOk.calls k a0_2 a0_3 a0_4 a0_5 false _ A4.out).mono ?_
   rintro e w11 ⟨rfl, hb⟩
   refine ⟨_, rfl, ?_⟩
   replace BK402 := sqb BK402 hb
   replace HB := sqs HB hb
   (try clear hb)
   refine hK.out _ _ sqz (fun hHeld => ?_)
   clear hK K
   refine sqnm ?_
   refine sqp HT_ 3 9 ?_
   refine sqp HT_ 4 10 ?_
   refine sqpu HT_ 5 11 ?_
   refine sqpu HT_ 6 12 ?_
   refine sqpu HT_ 7 13 ?_
   refine sqpu HT_ 8 14 ?_
   refine sqpu HT_ 9 15 ?_
   refine sqpu HT_ 10 16 ?_
   refine sqpu HT_ 11 17 ?_
   refine sqpu HT_ 12 18 ?_
   refine sqp HT_ 13 19 ?_
   refine done_ (done_of HT_.out (by kernel_rfl)) ?_
   try go_wp2
   go_meet
   case rel => exact ⟨_, (true), (by first | rfl | (simp; done) | (simp [*]; done)), H', ⟨by first | omega | exact Nat.le_refl _⟩, sqk BK402, sqh HB⟩
  subst c5
  have H1 : ((impl_Val_none.f a0_2 a0_3 a0_4 a0_5).bind fun t404 => (impl_refOk.j0 k (t404 != ((l0_1.length : Int) == 0)) a0_0 l0_1 a0_2 a0_3 a0_4 a0_5)) = some r := by rw [if_pos rfl] at H; exact H
  clear H
  have H := H1
  clear H1
  replace H := Option.bind_eq_some_iff.mp H
  obtain ⟨t404, A60, H⟩ := H
  try dsimp only at H
  have A6 := Aside0.mk A60
  clear A60
  have H' := Aside0.mk H
  clear H
  try go_wp2
  replace BK402 := Aside0.mk (blk_drew BK402.out)
  replace HB := Aside0.mk (below_drew1 HB.out)
  refine start_ (n := 14) (S := fun w' => w'.cell? ⟨gb402, 0, none⟩ = some (.bool a0_0) ∧ w'.cell? ⟨gb402, 1, none⟩ = some (.slice A0_1 l0_1.length c0_1) ∧ w'.cell? ⟨gb402, 2, none⟩ = some (.int .i64 a0_2) ∧ w'.cell? ⟨gb402, 3, none⟩ = some (.int .i64 a0_3) ∧ w'.cell? ⟨gb402, 4, none⟩ = some (.int .i64 a0_4) ∧ w'.cell? ⟨gb402, 5, none⟩ = some (.int .i64 a0_5)) (ds := []) #[false, false, false, false, false, false, false, false, false, false, false, false, false, false] (by kernel_rfl) rfl rfl sqz (fun hHeld => ?_); refine with_tabW impl_refOk.tab1 impl_refOk.bits1 (fun HT_ HW_ => ?_)
  generalize w3.drew = w7 at BK402 HB hHeld ⊢
  refine sqp HT_ 0 6 ?_
  refine sqw HT_ HW_ 1 7 hHeld ?_
  refine sqo HT_ 2 8 (fun K hK => ?_)
  refine sqG Try.func57 #[.agg #[.int .i64 a0_2, .int .i64 a0_3, .int .i64 a0_4, .int .i64 a0_5]] ?_
  with_reducible refine (impl_ValOk.calls k a0_2 a0_3 a0_4 a0_5 true _ A4.out).mono ?_
  rintro e w8 ⟨rfl, hb⟩
  refine ⟨_, rfl, ?_⟩
  replace BK402 := sqb BK402 hb
  replace HB := sqs HB hb
  (try clear hb)
  refine hK.out _ _ sqz (fun hHeld => ?_)
  clear hK K
  refine sqnm ?_
  refine sqp HT_ 3 9 ?_
  refine sqp HT_ 4 10 ?_
  refine sqp HT_ 5 11 ?_
  refine sqp HT_ 8 14 ?_
  refine sqw HT_ HW_ 6 12 hHeld ?_
  refine sqw HT_ HW_ 9 15 hHeld ?_
  refine sqp HT_ 10 16 ?_
  refine sqp HT_ 11 17 ?_
  refine sqo HT_ 7 13 (fun K hK => ?_)
  refine sqG Try.func56 #[.agg #[.int .i64 a0_2, .int .i64 a0_3, .int .i64 a0_4, .int .i64 a0_5]] ?_
  with_reducible refine (impl_Val_none.calls a0_2 a0_3 a0_4 a0_5 t404 _ A6.out).mono ?_
  rintro e w9 ⟨rfl, hb⟩
  refine ⟨_, rfl, ?_⟩
  replace BK402 := sqb BK402 hb
  replace HB := sqs HB hb
  (try clear hb)
  refine hK.out _ _ sqz (fun hHeld => ?_)
  clear hK K
  refine sqnm ?_
  refine sqp HT_ 12 18 ?_
  refine sqp HT_ 13 19 ?_
  refine done_ (done_of HT_.out (by kernel_rfl)) ?_
  try go_wp2
  go_meet
  case rel => exact ⟨_, ((t404 != ((l0_1.length : Int) == 0))), (by first | rfl | (simp; done) | (simp [*]; done)), H', ⟨by first | omega | exact Nat.le_refl _⟩, sqk BK402, sqh HB⟩
 case rest =>
  clear HC2
  obtain ⟨kq, x19_1, rfl, HA, HJ1, BK402, HB⟩ := hcut
  cases kq with
  | zero => exact absurd HA.out (by simp [impl_refOk.j0])
  | succ kj1 =>
   have H := HA.out
   clear HA
   simp only [impl_refOk.j0] at H
   by_cases c12 : x19_1 = true
   ·subst c12
    have H1 : (some false) = some r := by rw [if_pos rfl] at H; exact H
    clear H
    have H := H1
    clear H1
    obtain rfl := Option.some.inj H
    go_wp2
    go_ret
    exact sqe HB
   replace c12 := Bool.eq_false_iff.mpr c12
   subst c12
   have H1 : (impl_refOk.l0 kj1 (-1) l0_1 (l0_1.length : Int) 0 a0_0 l0_1 a0_2 a0_3 a0_4 a0_5) = some r := by rw [if_neg (show ¬ (false = true) by decide)] at H; exact H
   clear H
   have H := H1
   clear H1
   have H' := Aside0.mk H
   clear H
   obtain ⟨hcz13_0, hcz13_1, hcz13_2, hcz13_3, hcz13_4, hcz13_5, hfz13_0, hfz13_1, hfz13_2, hfz13_3, hfz13_4, hfz13_5⟩ := sqc6 BK402
   go_wp2
   go_loopg [3, 23] kj1 (fun kq v3 v23 w' => ∃ (x3_2 : Int) (x23_2 : Int), v3 = .int .i64 x3_2 ∧ v23 = .int .i64 x23_2 ∧ Aside0 (impl_refOk.l0 kq x3_2 l0_1 (l0_1.length : Int) x23_2 a0_0 l0_1 a0_2 a0_3 a0_4 a0_5 = some r) ∧ Aside0 (kq ≤ kj1) ∧ Aside0 (w'.heap[gb402]? = some (.cells #[.bool a0_0, (.slice A0_1 l0_1.length c0_1), .int .i64 a0_2, .int .i64 a0_3, .int .i64 a0_4, .int .i64 a0_5] 63 (0, 0))) ∧ Aside0 (Below w.heap.size w w'))
   case atStart => exact ⟨((-1)), (0), (by first | rfl | (simp; done) | (simp [*]; done)), (by first | rfl | (simp; done) | (simp [*]; done)), H', ⟨Nat.le_refl _⟩, sqk BK402, sqh HB⟩
   case round =>
    clear H'
    obtain ⟨x3_2, x23_2, rfl, rfl, HA, HK2, BK402, HB⟩ := hrel
    cases gk with
    | zero => exact absurd HA.out (by simp [impl_refOk.l0])
    | succ k2 =>
     have H := HA.out
     clear HA
     simp only [impl_refOk.l0] at H
     replace H := sqi H
     rcases H with ⟨c14, H⟩ | ⟨c14, H⟩
     ·have c14b0 := decide_eq_false c14
      clear c14
      by_cases c18 : a0_0 = true
      ·subst c18
       have H1 : (some true) = some r := by rw [if_pos rfl] at H; exact H
       clear H
       have H := H1
       clear H1
       obtain rfl := Option.some.inj H
       obtain ⟨hcz19_0, hcz19_1, hcz19_2, hcz19_3, hcz19_4, hcz19_5, hfz19_0, hfz19_1, hfz19_2, hfz19_3, hfz19_4, hfz19_5⟩ := sqc6 BK402
       go_wp2
       go_ret
       exact sqe HB
      replace c18 := Bool.eq_false_iff.mpr c18
      subst c18
      have H1 : (some (decide ((l0_1.length : Int) > 0))) = some r := by rw [if_neg (show ¬ (false = true) by decide)] at H; exact H
      clear H
      have H := H1
      clear H1
      obtain rfl := Option.some.inj H
      obtain ⟨hcz20_0, hcz20_1, hcz20_2, hcz20_3, hcz20_4, hcz20_5, hfz20_0, hfz20_1, hfz20_2, hfz20_3, hfz20_4, hfz20_5⟩ := sqc6 BK402
      go_wp2
      go_ret
      exact sqe HB
     have c14b0 := decide_eq_true c14
     clear c14
     replace H := sqi H
     rcases H with ⟨c15, H⟩ | ⟨c15, H⟩
     ·exact absurd H (by simp)
     have c15b0 := decide_eq_true c15
     clear c15
     replace H := sqi H
     rcases H with ⟨c16, H⟩ | ⟨c16, H⟩
     ·exact absurd H (by simp)
     have c16b0 := decide_eq_true c16
     clear c16
     replace H := sqj H
     rcases H with ⟨c17, H⟩ | ⟨c17, H⟩
     ·have c17b0 := decide_eq_true c17
      clear c17
      obtain rfl := Option.some.inj H
      have p405 : 0 ≤ (x23_2 : Int) := sqd
      have q405 : x23_2 < (l0_1.length : Int) := sqd
      obtain ⟨ad405, e405, hx405_0⟩ := Kd.at_int HR0_1.out x23_2 p405 q405
      cases e405
      replace hx405_0 := sqa HB hx405_0
      replace p405 := eq_true p405
      replace q405 := eq_true q405
      go_wp2
      go_ret
      exact sqe HB
     have c17b0 := decide_eq_false c17
     clear c17
     have H' := Aside0.mk H
     clear H
     have p405 : 0 ≤ (x23_2 : Int) := sqd
     have q405 : x23_2 < (l0_1.length : Int) := sqd
     obtain ⟨ad405, e405, hx405_0⟩ := Kd.at_int HR0_1.out x23_2 p405 q405
     cases e405
     replace hx405_0 := sqa HB hx405_0
     replace p405 := eq_true p405
     replace q405 := eq_true q405
     go_wp2
     go_roundg k2
     case measure => have := HJ1.out; have := HK2.out; omega
     case rel => exact ⟨(rd l0_1 x23_2), (wrap64 (x23_2 + 1)), (by first | rfl | (simp; done) | (simp [*]; done)), (by first | rfl | (simp; done) | (simp [*]; done)), H', ⟨by have := HJ1.out; have := HK2.out; omega⟩, sqk BK402, sqh HB⟩

/-! ### impl_Gaps_at: function 65 -/
set_option maxHeartbeats 8000000 in
set_option maxRecDepth 100000 in
theorem impl_Gaps_at.calls (a0_0 : Int) (A0_1 : Option Addr) (c0_1 : Nat) (l0_1 : List Int) (a1 : Int) (a2 : Int) (r : Int) (w : World) (hr0_1 : Kd.C (Kd.int .i64) w A0_1 l0_1.length l0_1) (hc0_1 : l0_1.length ≤ c0_1) (h : impl_Gaps_at.f a0_0 l0_1 a1 a2 = some r) :
  Calls Try.prog 65 #[.agg #[.int .i64 a0_0, .slice A0_1 l0_1.length c0_1], .int .i64 a1, .int .i64 a2] w fun e w' => e = .returned (.int .i64 r) ∧ Below w.heap.size w w' := by
 have hu37 := Try.underlying37
 have HR0_1 := Aside0.mk hr0_1
 have HC0_1 := Aside0.mk hc0_1
 clear hr0_1 hc0_1
 have HB := Aside0.mk (Below.refl w.heap.size w)
 have H := h
 unfold impl_Gaps_at.f at H
 clear h
 obtain rfl := Option.some.inj H
 go_enter Try.func65, Try.ntmps65
 go_wp2_with (first | ((with_reducible refine gate_dst (N := 3) rfl ?_); refine sqx 3 #[.int .i64 a0_0, .slice A0_1 l0_1.length c0_1] 37 ?_; intro gb406 hg w4 hbox hb; have BK406 := Aside0.mk hbox; have GW406 := sqg HB hg; have GE406 := sqg HB hg; replace HB := sqs HB hb; clear hb hbox hg; obtain ⟨hcz5_0, hcz5_1, hfz5_0, hfz5_1⟩ := sqc2 BK406))
 go_ret
 exact sqe HB

end Go.Proofs.Ytnmgckdgmplddaa.PFnExactAbsHas
