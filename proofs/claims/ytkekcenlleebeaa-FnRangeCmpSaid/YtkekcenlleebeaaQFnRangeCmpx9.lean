/- Functions of the program as plain Lean functions, and that calls of them come to what these tell. Conditions: those in each law. -/
import Derived.Test.YtkekcenlleebeaaSq
import Derived.Test.YtkekcenlleebeaaDFnRangeCmp
import Derived.Test.YtkekcenlleebeaaQFnRangeCmpx0
import Derived.Test.YtkekcenlleebeaaQFnRangeCmpx7
import Derived.Test.YtkekcenlleebeaaQFnRangeCmpx8
namespace Go.Proofs.Ytkekcenlleebeaa.PFnRangeCmp
open Go.RowKit Go.Proofs.Ytkekcenlleebeaa.Sq Go.Proofs.YtkekcenlleebeaaW.PrintWords Go.Proofs.YtkekcenlleebeaaW.PrintLast Go.Proofs.YtkekcenlleebeaaW.PrintMore
attribute [local go_sem] max2_int min2_int max_two min_two max_three min_three max_four min_four   -- for this text's walks alone
set_option linter.unusedVariables false
set_option linter.unusedSimpArgs false

/-! ### impl_RangeMeet: function 127 -/
theorem impl_RangeMeet.mono_l : ∀ k, (∀ y0 y1 y2 y3 y4, LeO (impl_RangeMeet.j0 k y0 y1 y2 y3 y4) (impl_RangeMeet.j0 (k + 1) y0 y1 y2 y3 y4))
  | 0 => fun _ _ _ _ _ r h => by simp [impl_RangeMeet.j0] at h
  | k + 1 => by
    have ih0 := impl_RangeMeet.mono_l k
    · intro y0 y1 y2 y3 y4
      unfold impl_RangeMeet.j0
      repeat' first
      | (with_reducible exact ih0 _ _ _ _ _)
      | (with_reducible exact LeO.refl _)
      | (with_reducible exact LeO.none _)
      | (with_reducible refine LeO.ite ?_ ?_)
      | (with_reducible refine LeO.bind ?_ (fun _ => ?_))
      | exact ih0 _ _ _ _ _
      | exact LeO.none _
      | refine LeO.ite ?_ ?_
      | refine LeO.bind ?_ (fun _ => ?_)
theorem impl_RangeMeet.mono : ∀ a0 a1 a2 a3 k, LeO (impl_RangeMeet.f k a0 a1 a2 a3) (impl_RangeMeet.f (k + 1) a0 a1 a2 a3) := by
  intro a0 a1 a2 a3 k
  have ih0 := impl_RangeMeet.mono_l k
  unfold impl_RangeMeet.f
  repeat' first
      | (with_reducible exact ih0 _ _ _ _ _)
      | (with_reducible exact LeO.refl _)
      | (with_reducible exact LeO.none _)
      | (with_reducible refine LeO.ite ?_ ?_)
      | (with_reducible refine LeO.bind ?_ (fun _ => ?_))
      | exact ih0 _ _ _ _ _
      | exact LeO.none _
      | refine LeO.ite ?_ ?_
      | refine LeO.bind ?_ (fun _ => ?_)
set_option maxHeartbeats 8000000 in
set_option maxRecDepth 100000 in
theorem impl_RangeMeet.calls (k : Nat) (a0_0 : Int) (a0_1 : Int) (a1_0 : Int) (a1_1 : Int) (r1 : Int) (r2 : Int) (w : World) (h : impl_RangeMeet.f k a0_0 a0_1 a1_0 a1_1 = some (r1, r2)) :
    Calls Try.prog 127 #[.agg #[.int .i64 a0_0, .int .i64 a0_1], .agg #[.int .i64 a1_0, .int .i64 a1_1]] w fun e w' => e = .returned (.agg #[.int .i64 r1, .int .i64 r2]) ∧ Below w.heap.size w w' := by
  have hu24 := Try.underlying24
  have HB := Aside0.mk (Below.refl w.heap.size w)
  have H : ((impl_RangeOk.f a0_0 a0_1).bind fun t254 => (if t254 = true then ((impl_RangeOk.f a1_0 a1_1).bind fun t255 => (if t255 = true then ((impl_Range_empty.f a0_0 a0_1).bind fun t256 => (if t256 = true then (impl_RangeMeet.j0 k true a0_0 a0_1 a1_0 a1_1) else ((impl_Range_empty.f a1_0 a1_1).bind fun t257 => (impl_RangeMeet.j0 k t257 a0_0 a0_1 a1_0 a1_1)))) else (impl_RangeMeet.j0 k true a0_0 a0_1 a1_0 a1_1))) else (impl_RangeMeet.j0 k true a0_0 a0_1 a1_0 a1_1))) = some (r1, r2) := h
  clear h
  have HC3 := Aside0.mk H
  clear H
  go_enter Try.func127, Try.ntmps127
  go_upto_region 1 with (first | ((with_reducible refine gate_dst (N := 2) rfl ?_); refine sqx 2 #[.int .i64 a0_0, .int .i64 a0_1] 24 ?_; intro gb251 hg w4 hbox hb; have BK251 := Aside0.mk (hbox); have GW251 := sqg HB hg; have GE251 := sqg HB hg; replace HB := sqs HB hb; clear hb hbox hg) | ((with_reducible refine gate_dst (N := 3) rfl ?_); refine sqx 3 #[.int .i64 a1_0, .int .i64 a1_1] 24 ?_; intro gb252 hg w5 hbox hb; have BK252 := Aside0.mk (hbox); have GW252 := sqg HB hg; have GE252 := sqg HB hg; have NB251_252 := sqn BK251 hg; have NB252_251 := sqm BK251 hg; replace BK251 := sqb BK251 hb; replace HB := sqs HB hb; clear hb hbox hg) | ((with_reducible refine gate_dst (N := 4) rfl ?_); refine sqx 4 #[.int .i64 0, .int .i64 0] 24 ?_; intro gb253 hg w6 hbox hb; have BK253 := Aside0.mk (hbox); have GW253 := sqg HB hg; have GE253 := sqg HB hg; have NB251_253 := sqn BK251 hg; have NB253_251 := sqm BK251 hg; have NB252_253 := sqn BK252 hg; have NB253_252 := sqm BK252 hg; replace BK251 := sqb BK251 hb; replace BK252 := sqb BK252 hb; replace HB := sqs HB hb; clear hb hbox hg))
  (try simp only [Act.put, List.setIfInBounds_toArray, List.set_cons_zero, List.set_cons_succ])
  go_cut [20] (fun v20 wc => ∃ (kq : Nat) (x20_2 : Bool), v20 = .bool x20_2 ∧ Aside0 (impl_RangeMeet.j0 kq x20_2 a0_0 a0_1 a1_0 a1_1 = some (r1, r2)) ∧ Aside0 (kq ≤ k) ∧ Aside0 (wc.heap[gb251]? = some (.cells #[.int .i64 a0_0, .int .i64 a0_1] 24 (0, 0))) ∧ Aside0 (wc.heap[gb252]? = some (.cells #[.int .i64 a1_0, .int .i64 a1_1] 24 (0, 0))) ∧ Aside0 (wc.heap[gb253]? = some (.cells #[.int .i64 0, .int .i64 0] 24 (0, 0))) ∧ Aside0 (Below w.heap.size w wc))
  case first =>
    have H := HC3.out
    clear HC3
    replace H := Option.bind_eq_some_iff.mp H
    obtain ⟨t254, A70, H⟩ := H
    replace H : (if t254 = true then ((impl_RangeOk.f a1_0 a1_1).bind fun t255 => (if t255 = true then ((impl_Range_empty.f a0_0 a0_1).bind fun t256 => (if t256 = true then (impl_RangeMeet.j0 k true a0_0 a0_1 a1_0 a1_1) else ((impl_Range_empty.f a1_0 a1_1).bind fun t257 => (impl_RangeMeet.j0 k t257 a0_0 a0_1 a1_0 a1_1)))) else (impl_RangeMeet.j0 k true a0_0 a0_1 a1_0 a1_1))) else (impl_RangeMeet.j0 k true a0_0 a0_1 a1_0 a1_1)) = some (r1, r2) := H
    have A7 := Aside0.mk A70
    clear A70
    by_cases c8 : t254 = true
    · subst c8
      have H1 : ((impl_RangeOk.f a1_0 a1_1).bind fun t255 => (if t255 = true then ((impl_Range_empty.f a0_0 a0_1).bind fun t256 => (if t256 = true then (impl_RangeMeet.j0 k true a0_0 a0_1 a1_0 a1_1) else ((impl_Range_empty.f a1_0 a1_1).bind fun t257 => (impl_RangeMeet.j0 k t257 a0_0 a0_1 a1_0 a1_1)))) else (impl_RangeMeet.j0 k true a0_0 a0_1 a1_0 a1_1))) = some (r1, r2) := by rw [if_pos rfl] at H; exact H
      clear H
      have H := H1
      clear H1
      replace H := Option.bind_eq_some_iff.mp H
      obtain ⟨t255, A90, H⟩ := H
      replace H : (if t255 = true then ((impl_Range_empty.f a0_0 a0_1).bind fun t256 => (if t256 = true then (impl_RangeMeet.j0 k true a0_0 a0_1 a1_0 a1_1) else ((impl_Range_empty.f a1_0 a1_1).bind fun t257 => (impl_RangeMeet.j0 k t257 a0_0 a0_1 a1_0 a1_1)))) else (impl_RangeMeet.j0 k true a0_0 a0_1 a1_0 a1_1)) = some (r1, r2) := H
      have A9 := Aside0.mk A90
      clear A90
      by_cases c10 : t255 = true
      · subst c10
        have H1 : ((impl_Range_empty.f a0_0 a0_1).bind fun t256 => (if t256 = true then (impl_RangeMeet.j0 k true a0_0 a0_1 a1_0 a1_1) else ((impl_Range_empty.f a1_0 a1_1).bind fun t257 => (impl_RangeMeet.j0 k t257 a0_0 a0_1 a1_0 a1_1)))) = some (r1, r2) := by rw [if_pos rfl] at H; exact H
        clear H
        have H := H1
        clear H1
        replace H := Option.bind_eq_some_iff.mp H
        obtain ⟨t256, A110, H⟩ := H
        replace H : (if t256 = true then (impl_RangeMeet.j0 k true a0_0 a0_1 a1_0 a1_1) else ((impl_Range_empty.f a1_0 a1_1).bind fun t257 => (impl_RangeMeet.j0 k t257 a0_0 a0_1 a1_0 a1_1))) = some (r1, r2) := H
        have A11 := Aside0.mk A110
        clear A110
        by_cases c12 : t256 = true
        · subst c12
          have H1 : (impl_RangeMeet.j0 k true a0_0 a0_1 a1_0 a1_1) = some (r1, r2) := by rw [if_pos rfl] at H; exact H
          clear H
          have H := H1
          clear H1
          have H' := Aside0.mk H
          clear H
          have hnb13 := NB251_252.out
          have hnc13 := NB252_251.out
          have hnb14 := NB251_253.out
          have hnc14 := NB253_251.out
          obtain ⟨hcz15_0, hcz15_1, hfz15_0, hfz15_1⟩ := sqc2 BK251
          go_wp2_with (first | ((with_reducible refine gate_callee (f := 76) rfl ?_); refine sqL (some 6) Try.func76 #[.agg #[.int .i64 a0_0, .int .i64 a0_1]] ?_; (with_reducible refine (impl_RangeOk.calls a0_0 a0_1 true _ A7.out).mono ?_); rintro e w16 ⟨rfl, hb⟩; refine ⟨_, rfl, ?_⟩; replace BK251 := sqb BK251 hb; replace BK252 := sqb BK252 hb; replace BK253 := sqb BK253 hb; replace HB := sqs HB hb; (try clear hb); have hnb17 := NB252_253.out; have hnc17 := NB253_252.out; obtain ⟨hcz18_0, hcz18_1, hfz18_0, hfz18_1⟩ := sqc2 BK252) | (go_at_call 76; (with_reducible refine (impl_RangeOk.calls a1_0 a1_1 true _ A9.out).mono ?_); rintro e w19 ⟨rfl, hb⟩; replace BK251 := sqb BK251 hb; replace BK252 := sqb BK252 hb; replace BK253 := sqb BK253 hb; replace HB := sqs HB hb; (try clear hb); obtain ⟨hcz20_0, hcz20_1, hfz20_0, hfz20_1⟩ := sqc2 BK251) | (go_at_call 95; (with_reducible refine (impl_Range_empty.calls a0_0 a0_1 true _ A11.out).mono ?_); rintro e w21 ⟨rfl, hb⟩; replace BK251 := sqb BK251 hb; replace BK252 := sqb BK252 hb; replace BK253 := sqb BK253 hb; replace HB := sqs HB hb; (try clear hb)))
          go_meet
          case rel => exact ⟨_, (true), (by first | rfl | (simp; done) | (simp [*]; done)), H', ⟨by first | omega | exact Nat.le_refl _⟩, sqk BK251, sqk BK252, sqk BK253, sqh HB⟩
        · replace c12 := Bool.eq_false_iff.mpr c12
          subst c12
          have H1 : ((impl_Range_empty.f a1_0 a1_1).bind fun t257 => (impl_RangeMeet.j0 k t257 a0_0 a0_1 a1_0 a1_1)) = some (r1, r2) := by rw [if_neg (show ¬ (false = true) by decide)] at H; exact H
          clear H
          have H := H1
          clear H1
          replace H := Option.bind_eq_some_iff.mp H
          obtain ⟨t257, A220, H⟩ := H
          replace H : (impl_RangeMeet.j0 k t257 a0_0 a0_1 a1_0 a1_1) = some (r1, r2) := H
          have A22 := Aside0.mk A220
          clear A220
          have H' := Aside0.mk H
          clear H
          have hnb23 := NB251_252.out
          have hnc23 := NB252_251.out
          have hnb24 := NB251_253.out
          have hnc24 := NB253_251.out
          obtain ⟨hcz25_0, hcz25_1, hfz25_0, hfz25_1⟩ := sqc2 BK251
          go_wp2_with (first | ((with_reducible refine gate_callee (f := 76) rfl ?_); refine sqL (some 6) Try.func76 #[.agg #[.int .i64 a0_0, .int .i64 a0_1]] ?_; (with_reducible refine (impl_RangeOk.calls a0_0 a0_1 true _ A7.out).mono ?_); rintro e w26 ⟨rfl, hb⟩; refine ⟨_, rfl, ?_⟩; replace BK251 := sqb BK251 hb; replace BK252 := sqb BK252 hb; replace BK253 := sqb BK253 hb; replace HB := sqs HB hb; (try clear hb); have hnb27 := NB252_253.out; have hnc27 := NB253_252.out; obtain ⟨hcz28_0, hcz28_1, hfz28_0, hfz28_1⟩ := sqc2 BK252) | (go_at_call 76; (with_reducible refine (impl_RangeOk.calls a1_0 a1_1 true _ A9.out).mono ?_); rintro e w29 ⟨rfl, hb⟩; replace BK251 := sqb BK251 hb; replace BK252 := sqb BK252 hb; replace BK253 := sqb BK253 hb; replace HB := sqs HB hb; (try clear hb); obtain ⟨hcz30_0, hcz30_1, hfz30_0, hfz30_1⟩ := sqc2 BK251) | (go_at_call 95; (with_reducible refine (impl_Range_empty.calls a0_0 a0_1 false _ A11.out).mono ?_); rintro e w31 ⟨rfl, hb⟩; replace BK251 := sqb BK251 hb; replace BK252 := sqb BK252 hb; replace BK253 := sqb BK253 hb; replace HB := sqs HB hb; (try clear hb); obtain ⟨hcz32_0, hcz32_1, hfz32_0, hfz32_1⟩ := sqc2 BK252) | (go_at_call 95; (with_reducible refine (impl_Range_empty.calls a1_0 a1_1 t257 _ A22.out).mono ?_); rintro e w33 ⟨rfl, hb⟩; replace BK251 := sqb BK251 hb; replace BK252 := sqb BK252 hb; replace BK253 := sqb BK253 hb; replace HB := sqs HB hb; (try clear hb)))
          go_meet
          case rel => exact ⟨_, (t257), (by first | rfl | (simp; done) | (simp [*]; done)), H', ⟨by first | omega | exact Nat.le_refl _⟩, sqk BK251, sqk BK252, sqk BK253, sqh HB⟩
      · replace c10 := Bool.eq_false_iff.mpr c10
        subst c10
        have H1 : (impl_RangeMeet.j0 k true a0_0 a0_1 a1_0 a1_1) = some (r1, r2) := by rw [if_neg (show ¬ (false = true) by decide)] at H; exact H
        clear H
        have H := H1
        clear H1
        have H' := Aside0.mk H
        clear H
        have hnb34 := NB251_252.out
        have hnc34 := NB252_251.out
        have hnb35 := NB251_253.out
        have hnc35 := NB253_251.out
        obtain ⟨hcz36_0, hcz36_1, hfz36_0, hfz36_1⟩ := sqc2 BK251
        go_wp2_with (first | ((with_reducible refine gate_callee (f := 76) rfl ?_); refine sqL (some 6) Try.func76 #[.agg #[.int .i64 a0_0, .int .i64 a0_1]] ?_; (with_reducible refine (impl_RangeOk.calls a0_0 a0_1 true _ A7.out).mono ?_); rintro e w37 ⟨rfl, hb⟩; refine ⟨_, rfl, ?_⟩; replace BK251 := sqb BK251 hb; replace BK252 := sqb BK252 hb; replace BK253 := sqb BK253 hb; replace HB := sqs HB hb; (try clear hb); have hnb38 := NB252_253.out; have hnc38 := NB253_252.out; obtain ⟨hcz39_0, hcz39_1, hfz39_0, hfz39_1⟩ := sqc2 BK252) | (go_at_call 76; (with_reducible refine (impl_RangeOk.calls a1_0 a1_1 false _ A9.out).mono ?_); rintro e w40 ⟨rfl, hb⟩; replace BK251 := sqb BK251 hb; replace BK252 := sqb BK252 hb; replace BK253 := sqb BK253 hb; replace HB := sqs HB hb; (try clear hb)))
        go_meet
        case rel => exact ⟨_, (true), (by first | rfl | (simp; done) | (simp [*]; done)), H', ⟨by first | omega | exact Nat.le_refl _⟩, sqk BK251, sqk BK252, sqk BK253, sqh HB⟩
    · replace c8 := Bool.eq_false_iff.mpr c8
      subst c8
      have H1 : (impl_RangeMeet.j0 k true a0_0 a0_1 a1_0 a1_1) = some (r1, r2) := by rw [if_neg (show ¬ (false = true) by decide)] at H; exact H
      clear H
      have H := H1
      clear H1
      have H' := Aside0.mk H
      clear H
      have hnb41 := NB251_252.out
      have hnc41 := NB252_251.out
      have hnb42 := NB251_253.out
      have hnc42 := NB253_251.out
      obtain ⟨hcz43_0, hcz43_1, hfz43_0, hfz43_1⟩ := sqc2 BK251
      go_wp2_with (first | ((with_reducible refine gate_callee (f := 76) rfl ?_); refine sqL (some 6) Try.func76 #[.agg #[.int .i64 a0_0, .int .i64 a0_1]] ?_; (with_reducible refine (impl_RangeOk.calls a0_0 a0_1 false _ A7.out).mono ?_); rintro e w44 ⟨rfl, hb⟩; refine ⟨_, rfl, ?_⟩; replace BK251 := sqb BK251 hb; replace BK252 := sqb BK252 hb; replace BK253 := sqb BK253 hb; replace HB := sqs HB hb; (try clear hb)))
      go_meet
      case rel => exact ⟨_, (true), (by first | rfl | (simp; done) | (simp [*]; done)), H', ⟨by first | omega | exact Nat.le_refl _⟩, sqk BK251, sqk BK252, sqk BK253, sqh HB⟩
  case rest =>
    clear HC3
    obtain ⟨kq, x20_2, rfl, HA, HJ2, BK251, BK252, BK253, HB⟩ := hcut
    cases kq with
    | zero => exact absurd HA.out (by simp [impl_RangeMeet.j0])
    | succ kj2 =>
      have H := HA.out
      clear HA
      simp only [impl_RangeMeet.j0] at H
      by_cases c45 : x20_2 = true
      · subst c45
        have H1 : ((impl_rangeNone.f).bind fun bt258 => (some (bt258.1, bt258.2))) = some (r1, r2) := by rw [if_pos rfl] at H; exact H
        clear H
        have H := H1
        clear H1
        replace H := Option.bind_eq_some_iff.mp H
        obtain ⟨⟨t258, t259⟩, A460, H⟩ := H
        replace H : (some (t258, t259)) = some (r1, r2) := H
        have A46 := Aside0.mk A460
        clear A460
        simp only [Option.some.injEq, Prod.mk.injEq] at H
        obtain ⟨rfl, rfl⟩ := H
        go_wp2_with (first | ((with_reducible refine gate_callee (f := 126) rfl ?_); refine sqL (some 21) Try.func126 #[] ?_; (with_reducible refine (impl_rangeNone.calls  t258 t259 _ A46.out).mono ?_); rintro e w47 ⟨rfl, hb⟩; refine ⟨_, rfl, ?_⟩; replace BK251 := sqb BK251 hb; replace BK252 := sqb BK252 hb; replace BK253 := sqb BK253 hb; replace HB := sqs HB hb; (try clear hb); have hnb48 := NB253_251.out; have hnc48 := NB251_253.out; have hnb49 := NB253_252.out; have hnc49 := NB252_253.out; obtain ⟨hcz50_0, hcz50_1, hfz50_0, hfz50_1⟩ := sqc2 BK253))
        refine bodyPost_ret (results_cell_row rfl _ _ gb253 24 #[.int .i64 t258, .int .i64 t259] (0, 0) _ rfl (by refine sqt ?_; refine blk_put (cs := #[.int .i64 t258, .int .i64 0]) ?_ 1 _ rfl; refine sqt ?_; refine blk_put (cs := #[.int .i64 0, .int .i64 0]) ?_ 0 _ rfl; refine sqt ?_; exact BK253.out) Try.underlying24 rfl (by kernel_rfl)) rfl ?_
        exact sqe HB
      · replace c45 := Bool.eq_false_iff.mpr c45
        subst c45
        have H1 : ((impl_rangeFrom.f (mx a0_0 a1_0) (mn a0_1 a1_1)).bind fun bt260 => (some (bt260.1, bt260.2))) = some (r1, r2) := by rw [if_neg (show ¬ (false = true) by decide)] at H; exact H
        clear H
        have H := H1
        clear H1
        obtain ⟨ji51, hji51⟩ : ∃ j_ : Int, (mx a0_0 a1_0) = j_ := ⟨_, rfl⟩
        replace H : ((impl_rangeFrom.f (ji51) (mn a0_1 a1_1)).bind fun bt260 => (some (bt260.1, bt260.2))) = some (r1, r2) := by first | (rw [hji51] at H; exact H) | (simp only [hji51] at H ⊢; exact H)
        have hji51_ : (if a0_0 < a1_0 then a1_0 else a0_0) = ji51 := hji51
        obtain ⟨ji52, hji52⟩ : ∃ j_ : Int, (mn a0_1 a1_1) = j_ := ⟨_, rfl⟩
        replace H : ((impl_rangeFrom.f (ji51) (ji52)).bind fun bt260 => (some (bt260.1, bt260.2))) = some (r1, r2) := by first | (rw [hji52] at H; exact H) | (simp only [hji52] at H ⊢; exact H)
        have hji52_ : (if a1_1 < a0_1 then a1_1 else a0_1) = ji52 := hji52
        replace H := Option.bind_eq_some_iff.mp H
        obtain ⟨⟨t260, t261⟩, A530, H⟩ := H
        replace H : (some (t260, t261)) = some (r1, r2) := H
        have A53 := Aside0.mk A530
        clear A530
        simp only [Option.some.injEq, Prod.mk.injEq] at H
        obtain ⟨rfl, rfl⟩ := H
        have hnb54 := NB251_252.out
        have hnc54 := NB252_251.out
        have hnb55 := NB251_253.out
        have hnc55 := NB253_251.out
        obtain ⟨hcz56_0, hcz56_1, hfz56_0, hfz56_1⟩ := sqc2 BK251
        have hnb57 := NB252_253.out
        have hnc57 := NB253_252.out
        obtain ⟨hcz58_0, hcz58_1, hfz58_0, hfz58_1⟩ := sqc2 BK252
        go_wp2_with (first | ((with_reducible refine gate_callee (f := 129) rfl ?_); refine goesL_ (some 32) rfl rfl Try.func129 (by kernel_rfl) rfl #[.int .i64 ji51, .int .i64 ji52] rfl (by (try simp only [List.map_toArray, List.map_cons, List.map_nil]); first | done | (simp only [hji51, hji52]; rfl) | rfl | (simp only [List.length_drop, List.length_take]; rfl)) ?_; (with_reducible refine (impl_rangeFrom.calls ji51 ji52 t260 t261 _ A53.out).mono ?_); rintro e w59 ⟨rfl, hb⟩; refine ⟨_, rfl, ?_⟩; replace BK251 := sqb BK251 hb; replace BK252 := sqb BK252 hb; replace BK253 := sqb BK253 hb; replace HB := sqs HB hb; (try clear hb); obtain ⟨hcz60_0, hcz60_1, hfz60_0, hfz60_1⟩ := sqc2 BK253))
        refine bodyPost_ret (results_cell_row rfl _ _ gb253 24 #[.int .i64 t260, .int .i64 t261] (0, 0) _ rfl (by refine sqt ?_; refine blk_put (cs := #[.int .i64 t260, .int .i64 0]) ?_ 1 _ rfl; refine sqt ?_; refine blk_put (cs := #[.int .i64 0, .int .i64 0]) ?_ 0 _ rfl; refine sqt ?_; exact BK253.out) Try.underlying24 rfl (by kernel_rfl)) rfl ?_
        exact ⟨by first | rfl | (simp [errW_none, errW_some] <;> rfl) | (simp only [← hji51, ← hji52]; first | rfl | (simp [errW_none, errW_some] <;> rfl)) | (simp [*, errW_none, errW_some] <;> rfl), by repeat (first | (with_reducible first | exact HB.out | apply below_alloc | apply pw_below_drewN | apply below_drew1 | refine below_set ?_ GE251.out | refine below_set ?_ GE252.out | refine below_set ?_ GE253.out) | exact HB.out)⟩

/-! ### impl_Range_single: function 197 -/
set_option maxHeartbeats 8000000 in
set_option maxRecDepth 100000 in
theorem impl_Range_single.calls (a0_0 : Int) (a0_1 : Int) (r : Bool) (w : World) (h : impl_Range_single.f a0_0 a0_1 = some r) :
    Calls Try.prog 197 #[.agg #[.int .i64 a0_0, .int .i64 a0_1]] w fun e w' => e = .returned (.bool r) ∧ Below w.heap.size w w' := by
  have hu24 := Try.underlying24
  have HB := Aside0.mk (Below.refl w.heap.size w)
  have H : (some (a0_0 == a0_1)) = some r := h
  clear h
  obtain rfl := Option.some.inj H
  go_enter Try.func197, Try.ntmps197
  go_wp2_with (first | ((with_reducible refine gate_dst (N := 1) rfl ?_); refine sqx 1 #[.int .i64 a0_0, .int .i64 a0_1] 24 ?_; intro gb262 hg w2 hbox hb; have BK262 := Aside0.mk (hbox); have GW262 := sqg HB hg; have GE262 := sqg HB hg; replace HB := sqs HB hb; clear hb hbox hg; obtain ⟨hcz3_0, hcz3_1, hfz3_0, hfz3_1⟩ := sqc2 BK262))
  go_ret
  exact sqe HB

/-! ### impl_rangeWithout: function 128 -/
theorem impl_rangeWithout.mono_l : ∀ k, (∀ y0 y1 y2 y3 y4, LeO (impl_rangeWithout.j0 k y0 y1 y2 y3 y4) (impl_rangeWithout.j0 (k + 1) y0 y1 y2 y3 y4))
  | 0 => fun _ _ _ _ _ r h => by simp [impl_rangeWithout.j0] at h
  | k + 1 => by
    have ih0 := impl_rangeWithout.mono_l k
    · intro y0 y1 y2 y3 y4
      unfold impl_rangeWithout.j0
      repeat' first
      | (with_reducible exact ih0 _ _ _ _ _)
      | (with_reducible exact LeO.refl _)
      | (with_reducible exact LeO.none _)
      | (with_reducible refine LeO.ite ?_ ?_)
      | (with_reducible refine LeO.bind ?_ (fun _ => ?_))
      | exact ih0 _ _ _ _ _
      | exact LeO.none _
      | refine LeO.ite ?_ ?_
      | refine LeO.bind ?_ (fun _ => ?_)
theorem impl_rangeWithout.mono : ∀ a0 a1 a2 a3 k, LeO (impl_rangeWithout.f k a0 a1 a2 a3) (impl_rangeWithout.f (k + 1) a0 a1 a2 a3) := by
  intro a0 a1 a2 a3 k
  have ih0 := impl_rangeWithout.mono_l k
  unfold impl_rangeWithout.f
  repeat' first
      | (with_reducible exact ih0 _ _ _ _ _)
      | (with_reducible exact LeO.refl _)
      | (with_reducible exact LeO.none _)
      | (with_reducible refine LeO.ite ?_ ?_)
      | (with_reducible refine LeO.bind ?_ (fun _ => ?_))
      | exact ih0 _ _ _ _ _
      | exact LeO.none _
      | refine LeO.ite ?_ ?_
      | refine LeO.bind ?_ (fun _ => ?_)
set_option maxHeartbeats 8000000 in
set_option maxRecDepth 100000 in
theorem impl_rangeWithout.calls (k : Nat) (a0_0 : Int) (a0_1 : Int) (a1_0 : Int) (a1_1 : Int) (r1 : Int) (r2 : Int) (w : World) (h : impl_rangeWithout.f k a0_0 a0_1 a1_0 a1_1 = some (r1, r2)) :
    Calls Try.prog 128 #[.agg #[.int .i64 a0_0, .int .i64 a0_1], .agg #[.int .i64 a1_0, .int .i64 a1_1]] w fun e w' => e = .returned (.agg #[.int .i64 r1, .int .i64 r2]) ∧ Below w.heap.size w w' := by
  have hu24 := Try.underlying24
  have HB := Aside0.mk (Below.refl w.heap.size w)
  have H : ((impl_Range_single.f a1_0 a1_1).bind fun t266 => (if t266 = true then (impl_rangeWithout.j0 k (a1_0 == a0_0) a0_0 a0_1 a1_0 a1_1) else (impl_rangeWithout.j0 k false a0_0 a0_1 a1_0 a1_1))) = some (r1, r2) := h
  clear h
  have HC3 := Aside0.mk H
  clear H
  go_enter Try.func128, Try.ntmps128
  go_upto_region 1 with (first | ((with_reducible refine gate_dst (N := 2) rfl ?_); refine sqx 2 #[.int .i64 a0_0, .int .i64 a0_1] 24 ?_; intro gb263 hg w4 hbox hb; have BK263 := Aside0.mk (hbox); have GW263 := sqg HB hg; have GE263 := sqg HB hg; replace HB := sqs HB hb; clear hb hbox hg) | ((with_reducible refine gate_dst (N := 3) rfl ?_); refine sqx 3 #[.int .i64 a1_0, .int .i64 a1_1] 24 ?_; intro gb264 hg w5 hbox hb; have BK264 := Aside0.mk (hbox); have GW264 := sqg HB hg; have GE264 := sqg HB hg; have NB263_264 := sqn BK263 hg; have NB264_263 := sqm BK263 hg; replace BK263 := sqb BK263 hb; replace HB := sqs HB hb; clear hb hbox hg) | ((with_reducible refine gate_dst (N := 4) rfl ?_); refine sqx 4 #[.int .i64 0, .int .i64 0] 24 ?_; intro gb265 hg w6 hbox hb; have BK265 := Aside0.mk (hbox); have GW265 := sqg HB hg; have GE265 := sqg HB hg; have NB263_265 := sqn BK263 hg; have NB265_263 := sqm BK263 hg; have NB264_265 := sqn BK264 hg; have NB265_264 := sqm BK264 hg; replace BK263 := sqb BK263 hb; replace BK264 := sqb BK264 hb; replace HB := sqs HB hb; clear hb hbox hg))
  (try simp only [Act.put, List.setIfInBounds_toArray, List.set_cons_zero, List.set_cons_succ])
  go_cut [5] (fun v5 wc => ∃ (kq : Nat) (x5_2 : Bool), v5 = .bool x5_2 ∧ Aside0 (impl_rangeWithout.j0 kq x5_2 a0_0 a0_1 a1_0 a1_1 = some (r1, r2)) ∧ Aside0 (kq ≤ k) ∧ Aside0 (wc.heap[gb263]? = some (.cells #[.int .i64 a0_0, .int .i64 a0_1] 24 (0, 0))) ∧ Aside0 (wc.heap[gb264]? = some (.cells #[.int .i64 a1_0, .int .i64 a1_1] 24 (0, 0))) ∧ Aside0 (wc.heap[gb265]? = some (.cells #[.int .i64 0, .int .i64 0] 24 (0, 0))) ∧ Aside0 (Below w.heap.size w wc))
  case first =>
    have H := HC3.out
    clear HC3
    replace H := Option.bind_eq_some_iff.mp H
    obtain ⟨t266, A70, H⟩ := H
    replace H : (if t266 = true then (impl_rangeWithout.j0 k (a1_0 == a0_0) a0_0 a0_1 a1_0 a1_1) else (impl_rangeWithout.j0 k false a0_0 a0_1 a1_0 a1_1)) = some (r1, r2) := H
    have A7 := Aside0.mk A70
    clear A70
    by_cases c8 : t266 = true
    · subst c8
      have H1 : (impl_rangeWithout.j0 k (a1_0 == a0_0) a0_0 a0_1 a1_0 a1_1) = some (r1, r2) := by rw [if_pos rfl] at H; exact H
      clear H
      have H := H1
      clear H1
      have H' := Aside0.mk H
      clear H
      have hnb9 := NB264_263.out
      have hnc9 := NB263_264.out
      have hnb10 := NB264_265.out
      have hnc10 := NB265_264.out
      obtain ⟨hcz11_0, hcz11_1, hfz11_0, hfz11_1⟩ := sqc2 BK264
      go_wp2_with (first | ((with_reducible refine gate_callee (f := 197) rfl ?_); refine sqL (some 7) Try.func197 #[.agg #[.int .i64 a1_0, .int .i64 a1_1]] ?_; (with_reducible refine (impl_Range_single.calls a1_0 a1_1 true _ A7.out).mono ?_); rintro e w12 ⟨rfl, hb⟩; refine ⟨_, rfl, ?_⟩; replace BK263 := sqb BK263 hb; replace BK264 := sqb BK264 hb; replace BK265 := sqb BK265 hb; replace HB := sqs HB hb; (try clear hb); obtain ⟨hcz13_0, hcz13_1, hfz13_0, hfz13_1⟩ := sqc2 BK264; have hnb14 := NB263_265.out; have hnc14 := NB265_263.out; obtain ⟨hcz15_0, hcz15_1, hfz15_0, hfz15_1⟩ := sqc2 BK263))
      go_meet
      case rel => exact ⟨_, ((a1_0 == a0_0)), (by first | rfl | (simp; done) | (simp [*]; done)), H', ⟨by first | omega | exact Nat.le_refl _⟩, sqk BK263, sqk BK264, sqk BK265, sqh HB⟩
    · replace c8 := Bool.eq_false_iff.mpr c8
      subst c8
      have H1 : (impl_rangeWithout.j0 k false a0_0 a0_1 a1_0 a1_1) = some (r1, r2) := by rw [if_neg (show ¬ (false = true) by decide)] at H; exact H
      clear H
      have H := H1
      clear H1
      have H' := Aside0.mk H
      clear H
      have hnb16 := NB264_263.out
      have hnc16 := NB263_264.out
      have hnb17 := NB264_265.out
      have hnc17 := NB265_264.out
      obtain ⟨hcz18_0, hcz18_1, hfz18_0, hfz18_1⟩ := sqc2 BK264
      go_wp2_with (first | ((with_reducible refine gate_callee (f := 197) rfl ?_); refine sqL (some 7) Try.func197 #[.agg #[.int .i64 a1_0, .int .i64 a1_1]] ?_; (with_reducible refine (impl_Range_single.calls a1_0 a1_1 false _ A7.out).mono ?_); rintro e w19 ⟨rfl, hb⟩; refine ⟨_, rfl, ?_⟩; replace BK263 := sqb BK263 hb; replace BK264 := sqb BK264 hb; replace BK265 := sqb BK265 hb; replace HB := sqs HB hb; (try clear hb)))
      go_meet
      case rel => exact ⟨_, (false), (by first | rfl | (simp; done) | (simp [*]; done)), H', ⟨by first | omega | exact Nat.le_refl _⟩, sqk BK263, sqk BK264, sqk BK265, sqh HB⟩
  case rest =>
    clear HC3
    obtain ⟨kq, x5_2, rfl, HA, HJ2, BK263, BK264, BK265, HB⟩ := hcut
    cases kq with
    | zero => exact absurd HA.out (by simp [impl_rangeWithout.j0])
    | succ kj2 =>
      have H := HA.out
      clear HA
      simp only [impl_rangeWithout.j0] at H
      by_cases c20 : x5_2 = true
      · subst c20
        have H1 : ((impl_rangeFrom.f (wrap64 (a0_0 + 1)) a0_1).bind fun bt267 => (some (bt267.1, bt267.2))) = some (r1, r2) := by rw [if_pos rfl] at H; exact H
        clear H
        have H := H1
        clear H1
        replace H := Option.bind_eq_some_iff.mp H
        obtain ⟨⟨t267, t268⟩, A210, H⟩ := H
        replace H : (some (t267, t268)) = some (r1, r2) := H
        have A21 := Aside0.mk A210
        clear A210
        simp only [Option.some.injEq, Prod.mk.injEq] at H
        obtain ⟨rfl, rfl⟩ := H
        have hnb22 := NB263_264.out
        have hnc22 := NB264_263.out
        have hnb23 := NB263_265.out
        have hnc23 := NB265_263.out
        obtain ⟨hcz24_0, hcz24_1, hfz24_0, hfz24_1⟩ := sqc2 BK263
        go_wp2_with (first | ((with_reducible refine gate_callee (f := 129) rfl ?_); refine sqL (some 20) Try.func129 #[.int .i64 (wrap64 (a0_0 + 1)), .int .i64 a0_1] ?_; (with_reducible refine (impl_rangeFrom.calls (wrap64 (a0_0 + 1)) a0_1 t267 t268 _ A21.out).mono ?_); rintro e w25 ⟨rfl, hb⟩; refine ⟨_, rfl, ?_⟩; replace BK263 := sqb BK263 hb; replace BK264 := sqb BK264 hb; replace BK265 := sqb BK265 hb; replace HB := sqs HB hb; (try clear hb); have hnb26 := NB265_264.out; have hnc26 := NB264_265.out; obtain ⟨hcz27_0, hcz27_1, hfz27_0, hfz27_1⟩ := sqc2 BK265))
        refine bodyPost_ret (results_cell_row rfl _ _ gb265 24 #[.int .i64 t267, .int .i64 t268] (0, 0) _ rfl (by refine sqt ?_; refine blk_put (cs := #[.int .i64 t267, .int .i64 0]) ?_ 1 _ rfl; refine sqt ?_; refine blk_put (cs := #[.int .i64 0, .int .i64 0]) ?_ 0 _ rfl; refine sqt ?_; exact BK265.out) Try.underlying24 rfl (by kernel_rfl)) rfl ?_
        exact sqe HB
      · replace c20 := Bool.eq_false_iff.mpr c20
        subst c20
        have H1 : ((impl_Range_single.f a1_0 a1_1).bind fun t269 => (if t269 = true then (if a1_0 = a0_1 then ((impl_rangeFrom.f a0_0 (wrap64 (a0_1 - 1))).bind fun bt270 => (some (bt270.1, bt270.2))) else (some (a0_0, a0_1))) else (some (a0_0, a0_1)))) = some (r1, r2) := by rw [if_neg (show ¬ (false = true) by decide)] at H; exact H
        clear H
        have H := H1
        clear H1
        replace H := Option.bind_eq_some_iff.mp H
        obtain ⟨t269, A280, H⟩ := H
        replace H : (if t269 = true then (if a1_0 = a0_1 then ((impl_rangeFrom.f a0_0 (wrap64 (a0_1 - 1))).bind fun bt270 => (some (bt270.1, bt270.2))) else (some (a0_0, a0_1))) else (some (a0_0, a0_1))) = some (r1, r2) := H
        have A28 := Aside0.mk A280
        clear A280
        by_cases c29 : t269 = true
        · subst c29
          have H1 : (if a1_0 = a0_1 then ((impl_rangeFrom.f a0_0 (wrap64 (a0_1 - 1))).bind fun bt270 => (some (bt270.1, bt270.2))) else (some (a0_0, a0_1))) = some (r1, r2) := by rw [if_pos rfl] at H; exact H
          clear H
          have H := H1
          clear H1
          by_cases c30 : a1_0 = a0_1
          · rw [if_pos c30] at H
            have c30b0 : (a1_0 == a0_1) = true := beq_iff_eq.mpr c30
            have c30b1 : (a1_0 != a0_1) = false := bne_eq_false_iff_eq.mpr c30
            clear c30
            replace H := Option.bind_eq_some_iff.mp H
            obtain ⟨⟨t270, t271⟩, A310, H⟩ := H
            replace H : (some (t270, t271)) = some (r1, r2) := H
            have A31 := Aside0.mk A310
            clear A310
            simp only [Option.some.injEq, Prod.mk.injEq] at H
            obtain ⟨rfl, rfl⟩ := H
            have hnb32 := NB264_263.out
            have hnc32 := NB263_264.out
            have hnb33 := NB264_265.out
            have hnc33 := NB265_264.out
            obtain ⟨hcz34_0, hcz34_1, hfz34_0, hfz34_1⟩ := sqc2 BK264
            go_wp2_with (first | ((with_reducible refine gate_callee (f := 197) rfl ?_); refine sqL (some 23) Try.func197 #[.agg #[.int .i64 a1_0, .int .i64 a1_1]] ?_; (with_reducible refine (impl_Range_single.calls a1_0 a1_1 true _ A28.out).mono ?_); rintro e w35 ⟨rfl, hb⟩; refine ⟨_, rfl, ?_⟩; replace BK263 := sqb BK263 hb; replace BK264 := sqb BK264 hb; replace BK265 := sqb BK265 hb; replace HB := sqs HB hb; (try clear hb); obtain ⟨hcz36_0, hcz36_1, hfz36_0, hfz36_1⟩ := sqc2 BK264; have hnb37 := NB263_265.out; have hnc37 := NB265_263.out; obtain ⟨hcz38_0, hcz38_1, hfz38_0, hfz38_1⟩ := sqc2 BK263) | ((with_reducible refine gate_callee (f := 129) rfl ?_); refine sqL (some 36) Try.func129 #[.int .i64 a0_0, .int .i64 (wrap64 (a0_1 - 1))] ?_; (with_reducible refine (impl_rangeFrom.calls a0_0 (wrap64 (a0_1 - 1)) t270 t271 _ A31.out).mono ?_); rintro e w39 ⟨rfl, hb⟩; refine ⟨_, rfl, ?_⟩; replace BK263 := sqb BK263 hb; replace BK264 := sqb BK264 hb; replace BK265 := sqb BK265 hb; replace HB := sqs HB hb; (try clear hb); obtain ⟨hcz40_0, hcz40_1, hfz40_0, hfz40_1⟩ := sqc2 BK265))
            refine bodyPost_ret (results_cell_row rfl _ _ gb265 24 #[.int .i64 t270, .int .i64 t271] (0, 0) _ rfl (by refine sqt ?_; refine blk_put (cs := #[.int .i64 t270, .int .i64 0]) ?_ 1 _ rfl; refine sqt ?_; refine blk_put (cs := #[.int .i64 0, .int .i64 0]) ?_ 0 _ rfl; refine sqt ?_; exact BK265.out) Try.underlying24 rfl (by kernel_rfl)) rfl ?_
            exact sqe HB
          · rw [if_neg c30] at H
            have c30b0 : (a1_0 == a0_1) = false := beq_eq_false_iff_ne.mpr c30
            have c30b1 : (a1_0 != a0_1) = true := bne_iff_ne.mpr c30
            simp only [Option.some.injEq, Prod.mk.injEq] at H
            obtain ⟨rfl, rfl⟩ := H
            have hnb41 := NB264_263.out
            have hnc41 := NB263_264.out
            have hnb42 := NB264_265.out
            have hnc42 := NB265_264.out
            obtain ⟨hcz43_0, hcz43_1, hfz43_0, hfz43_1⟩ := sqc2 BK264
            go_wp2_with (first | ((with_reducible refine gate_callee (f := 197) rfl ?_); refine sqL (some 23) Try.func197 #[.agg #[.int .i64 a1_0, .int .i64 a1_1]] ?_; (with_reducible refine (impl_Range_single.calls a1_0 a1_1 true _ A28.out).mono ?_); rintro e w44 ⟨rfl, hb⟩; refine ⟨_, rfl, ?_⟩; replace BK263 := sqb BK263 hb; replace BK264 := sqb BK264 hb; replace BK265 := sqb BK265 hb; replace HB := sqs HB hb; (try clear hb); obtain ⟨hcz45_0, hcz45_1, hfz45_0, hfz45_1⟩ := sqc2 BK264; have hnb46 := NB263_265.out; have hnc46 := NB265_263.out; obtain ⟨hcz47_0, hcz47_1, hfz47_0, hfz47_1⟩ := sqc2 BK263; obtain ⟨hcz48_0, hcz48_1, hfz48_0, hfz48_1⟩ := sqc2 BK265))
            refine bodyPost_ret (results_cell_row rfl _ _ gb265 24 #[.int .i64 a0_0, .int .i64 a0_1] (0, 0) _ rfl (by refine sqt ?_; refine blk_put (cs := #[.int .i64 a0_0, .int .i64 0]) ?_ 1 _ rfl; refine sqt ?_; refine blk_put (cs := #[.int .i64 0, .int .i64 0]) ?_ 0 _ rfl; refine sqt ?_; exact BK265.out) Try.underlying24 rfl (by kernel_rfl)) rfl ?_
            exact sqe HB
        · replace c29 := Bool.eq_false_iff.mpr c29
          subst c29
          have H1 : (some (a0_0, a0_1)) = some (r1, r2) := by rw [if_neg (show ¬ (false = true) by decide)] at H; exact H
          clear H
          have H := H1
          clear H1
          simp only [Option.some.injEq, Prod.mk.injEq] at H
          obtain ⟨rfl, rfl⟩ := H
          have hnb49 := NB264_263.out
          have hnc49 := NB263_264.out
          have hnb50 := NB264_265.out
          have hnc50 := NB265_264.out
          obtain ⟨hcz51_0, hcz51_1, hfz51_0, hfz51_1⟩ := sqc2 BK264
          go_wp2_with (first | ((with_reducible refine gate_callee (f := 197) rfl ?_); refine sqL (some 23) Try.func197 #[.agg #[.int .i64 a1_0, .int .i64 a1_1]] ?_; (with_reducible refine (impl_Range_single.calls a1_0 a1_1 false _ A28.out).mono ?_); rintro e w52 ⟨rfl, hb⟩; refine ⟨_, rfl, ?_⟩; replace BK263 := sqb BK263 hb; replace BK264 := sqb BK264 hb; replace BK265 := sqb BK265 hb; replace HB := sqs HB hb; (try clear hb); have hnb53 := NB263_265.out; have hnc53 := NB265_263.out; obtain ⟨hcz54_0, hcz54_1, hfz54_0, hfz54_1⟩ := sqc2 BK263; obtain ⟨hcz55_0, hcz55_1, hfz55_0, hfz55_1⟩ := sqc2 BK265))
          refine bodyPost_ret (results_cell_row rfl _ _ gb265 24 #[.int .i64 a0_0, .int .i64 a0_1] (0, 0) _ rfl (by refine sqt ?_; refine blk_put (cs := #[.int .i64 a0_0, .int .i64 0]) ?_ 1 _ rfl; refine sqt ?_; refine blk_put (cs := #[.int .i64 0, .int .i64 0]) ?_ 0 _ rfl; refine sqt ?_; exact BK265.out) Try.underlying24 rfl (by kernel_rfl)) rfl ?_
          exact sqe HB

/-! ### impl_CmpTurn: function 130 -/
theorem impl_CmpTurn.mono_l : ∀ k, (∀ y0 y1 y2, LeO (impl_CmpTurn.j0 k y0 y1 y2) (impl_CmpTurn.j0 (k + 1) y0 y1 y2))
  | 0 => fun _ _ _ r h => by simp [impl_CmpTurn.j0] at h
  | k + 1 => by
    have ih0 := impl_CmpTurn.mono_l k
    · intro y0 y1 y2
      unfold impl_CmpTurn.j0
      repeat' first
      | (with_reducible exact ih0 _ _ _)
      | (with_reducible exact LeO.refl _)
      | (with_reducible exact LeO.none _)
      | (with_reducible refine LeO.ite ?_ ?_)
      | (with_reducible refine LeO.bind ?_ (fun _ => ?_))
      | exact ih0 _ _ _
      | exact LeO.none _
      | refine LeO.ite ?_ ?_
      | refine LeO.bind ?_ (fun _ => ?_)
theorem impl_CmpTurn.mono : ∀ a0 k, LeO (impl_CmpTurn.f k a0) (impl_CmpTurn.f (k + 1) a0) := by
  intro a0 k
  have ih0 := impl_CmpTurn.mono_l k
  unfold impl_CmpTurn.f
  repeat' first
      | (with_reducible exact ih0 _ _ _)
      | (with_reducible exact LeO.refl _)
      | (with_reducible exact LeO.none _)
      | (with_reducible refine LeO.ite ?_ ?_)
      | (with_reducible refine LeO.bind ?_ (fun _ => ?_))
      | exact ih0 _ _ _
      | exact LeO.none _
      | refine LeO.ite ?_ ?_
      | refine LeO.bind ?_ (fun _ => ?_)
set_option maxHeartbeats 8000000 in
set_option maxRecDepth 100000 in
theorem impl_CmpTurn.calls (k : Nat) (a0 : Int) (r : Int) (w : World) (h : impl_CmpTurn.f k a0 = some r) :
    Calls Try.prog 130 #[.int .i64 a0] w fun e w' => e = .returned (.int .i64 r) ∧ Drawn0 w w' := by
  have H : (if a0 = 1 then (impl_CmpTurn.j0 k a0 a0 (a0 == 1)) else (impl_CmpTurn.j0 k a0 a0 (a0 == 2))) = some r := h
  clear h
  have HC2 := Aside0.mk H
  clear H
  go_enter Try.func130, Try.ntmps130
  go_upto_if 4 with (fail)
  go_cut [4] (fun v4 wc => ∃ (kq : Nat) (x4_1 : Bool), v4 = .bool x4_1 ∧ Aside0 (impl_CmpTurn.j0 kq a0 a0 x4_1 = some r) ∧ Aside0 (kq ≤ k) ∧ Drawn0 w wc)
  case first =>
    have H := HC2.out
    clear HC2
    by_cases c3 : a0 = 1
    · rw [if_pos c3] at H
      have c3b0 : (a0 == 1) = true := beq_iff_eq.mpr c3
      have c3b1 : (a0 != 1) = false := bne_eq_false_iff_eq.mpr c3
      clear c3
      (first | rw [c3b0] | (simp only [i64_w, i32_w]; rw [c3b0]) | skip)
      have H' := Aside0.mk H
      clear H
      go_wp2
      go_meet
      case rel => exact ⟨_, ((a0 == 1)), (by first | rfl | (simp; done) | (simp [*]; done)), H', ⟨by first | omega | exact Nat.le_refl _⟩, by repeat (first | exact Drawn0.refl _ | apply Drawn0.step)⟩
    · rw [if_neg c3] at H
      have c3b0 : (a0 == 1) = false := beq_eq_false_iff_ne.mpr c3
      have c3b1 : (a0 != 1) = true := bne_iff_ne.mpr c3
      (first | rw [c3b0] | (simp only [i64_w, i32_w]; rw [c3b0]) | skip)
      have H' := Aside0.mk H
      clear H
      go_wp2
      go_meet
      case rel => exact ⟨_, ((a0 == 2)), (by first | rfl | (simp; done) | (simp [*]; done)), H', ⟨by first | omega | exact Nat.le_refl _⟩, by repeat (first | exact Drawn0.refl _ | apply Drawn0.step)⟩
  case rest =>
    clear HC2
    obtain ⟨kq, x4_1, rfl, HA, HJ1, ⟨mc1, rfl⟩⟩ := hcut
    cases kq with
    | zero => exact absurd HA.out (by simp [impl_CmpTurn.j0])
    | succ kj1 =>
      have H := HA.out
      clear HA
      simp only [impl_CmpTurn.j0] at H
      by_cases c4 : x4_1 = true
      · subst c4
        have H1 : (some a0) = some r := by rw [if_pos rfl] at H; exact H
        clear H
        have H := H1
        clear H1
        obtain rfl := Option.some.inj H
        go_wp2
        go_ret
        exact ⟨by first | rfl | (simp; done) | (simp [*]; done), by repeat (first | exact Drawn0.refl _ | apply Drawn0.step)⟩
      · replace c4 := Bool.eq_false_iff.mpr c4
        subst c4
        have H1 : (if a0 = 3 then (some 5) else (if a0 = 4 then (some 6) else (if a0 = 5 then (some 3) else (if a0 = 6 then (some 4) else (some 0))))) = some r := by rw [if_neg (show ¬ (false = true) by decide)] at H; exact H
        clear H
        have H := H1
        clear H1
        by_cases c5 : a0 = 3
        · rw [if_pos c5] at H
          have c5b0 : (a0 == 3) = true := beq_iff_eq.mpr c5
          have c5b1 : (a0 != 3) = false := bne_eq_false_iff_eq.mpr c5
          clear c5
          obtain rfl := Option.some.inj H
          go_wp2
          go_ret
          exact ⟨by first | rfl | (simp; done) | (simp [*]; done), by repeat (first | exact Drawn0.refl _ | apply Drawn0.step)⟩
        · rw [if_neg c5] at H
          have c5b0 : (a0 == 3) = false := beq_eq_false_iff_ne.mpr c5
          have c5b1 : (a0 != 3) = true := bne_iff_ne.mpr c5
          by_cases c6 : a0 = 4
          · rw [if_pos c6] at H
            have c6b0 : (a0 == 4) = true := beq_iff_eq.mpr c6
            have c6b1 : (a0 != 4) = false := bne_eq_false_iff_eq.mpr c6
            clear c6
            obtain rfl := Option.some.inj H
            go_wp2
            go_ret
            exact ⟨by first | rfl | (simp; done) | (simp [*]; done), by repeat (first | exact Drawn0.refl _ | apply Drawn0.step)⟩
          · rw [if_neg c6] at H
            have c6b0 : (a0 == 4) = false := beq_eq_false_iff_ne.mpr c6
            have c6b1 : (a0 != 4) = true := bne_iff_ne.mpr c6
            by_cases c7 : a0 = 5
            · rw [if_pos c7] at H
              have c7b0 : (a0 == 5) = true := beq_iff_eq.mpr c7
              have c7b1 : (a0 != 5) = false := bne_eq_false_iff_eq.mpr c7
              clear c7
              obtain rfl := Option.some.inj H
              go_wp2
              go_ret
              exact ⟨by first | rfl | (simp; done) | (simp [*]; done), by repeat (first | exact Drawn0.refl _ | apply Drawn0.step)⟩
            · rw [if_neg c7] at H
              have c7b0 : (a0 == 5) = false := beq_eq_false_iff_ne.mpr c7
              have c7b1 : (a0 != 5) = true := bne_iff_ne.mpr c7
              by_cases c8 : a0 = 6
              · rw [if_pos c8] at H
                have c8b0 : (a0 == 6) = true := beq_iff_eq.mpr c8
                have c8b1 : (a0 != 6) = false := bne_eq_false_iff_eq.mpr c8
                clear c8
                obtain rfl := Option.some.inj H
                go_wp2
                go_ret
                exact ⟨by first | rfl | (simp; done) | (simp [*]; done), by repeat (first | exact Drawn0.refl _ | apply Drawn0.step)⟩
              · rw [if_neg c8] at H
                have c8b0 : (a0 == 6) = false := beq_eq_false_iff_ne.mpr c8
                have c8b1 : (a0 != 6) = true := bne_iff_ne.mpr c8
                obtain rfl := Option.some.inj H
                go_wp2
                go_ret
                exact ⟨by first | rfl | (simp; done) | (simp [*]; done), by repeat (first | exact Drawn0.refl _ | apply Drawn0.step)⟩

end Go.Proofs.Ytkekcenlleebeaa.PFnRangeCmp
