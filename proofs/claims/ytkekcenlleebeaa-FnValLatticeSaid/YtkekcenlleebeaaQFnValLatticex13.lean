/- Functions of the program as plain Lean functions, and that calls of them come to what these tell. Conditions: those in each law. -/
import Derived.Test.YtkekcenlleebeaaSq
import Derived.Test.YtkekcenlleebeaaDFnValLattice
import Derived.Test.YtkekcenlleebeaaQFnValLatticex0
import Derived.Test.YtkekcenlleebeaaQFnValLatticex5
import Derived.Test.YtkekcenlleebeaaQFnValLatticex12
namespace Go.Proofs.Ytkekcenlleebeaa.PFnValLattice
open Go.RowKit Go.Proofs.Ytkekcenlleebeaa.Sq Go.Proofs.YtkekcenlleebeaaW.PrintWords Go.Proofs.YtkekcenlleebeaaW.PrintLast Go.Proofs.YtkekcenlleebeaaW.PrintMore
attribute [local go_sem] max2_int min2_int max_two min_two max_three min_three max_four min_four   -- for this text's walks alone
set_option linter.unusedVariables false
set_option linter.unusedSimpArgs false

/-! ### impl_ValIn: function 81 -/
def impl_ValIn.T5 : Bool × List (List Nat × List Nat) := (true, [([], []), ([0], [0]), ([1], [1]), ([2, 1], [2]), ([3], [3]), ([4, 3, 3], [3, 4]), ([3], [3]), ([6, 5, 3], [3, 6]), ([5, 7, 7, 3], [3, 5, 7]), ([3, 8], [3, 8]), ([9, 8], [9]), ([10], [10]), ([11, 10, 10], [10, 11]), ([10], [10]), ([13, 12, 10], [10, 13]), ([12, 14, 14, 10], [10, 12, 14]), ([10, 15], [10, 15]), ([16, 15, 0, 1, 2, 3, 4, 5, 6, 7, 8, 9, 10, 11, 12, 13, 14, 15, 16], [16])])
def impl_ValIn.B5 : List Nat := [0, 1, 3, 7, 15, 31, 15, 127, 255, 511, 1023, 2047, 4095, 2047, 16383, 32767, 65535, 131071]
theorem impl_ValIn.tab5 : rtab .any (opsOf Try.f81 5) = impl_ValIn.T5 := by kernel_rfl
theorem impl_ValIn.bits5 : waitsOk impl_ValIn.T5.2 impl_ValIn.B5 = true := by kernel_rfl
set_option maxHeartbeats 8000000 in
set_option maxRecDepth 100000 in
theorem impl_ValIn.calls (k : Nat) (a0_0 : Int) (a0_1 : Int) (a0_2 : Int) (a0_3 : Int) (a1_0 : Int) (a1_1 : Int) (a1_2 : Int) (a1_3 : Int) (r : Bool) (w : World) (h : impl_ValIn.f k a0_0 a0_1 a0_2 a0_3 a1_0 a1_1 a1_2 a1_3 = some r) :
  Calls Try.prog 81 #[.agg #[.int .i64 a0_0, .int .i64 a0_1, .int .i64 a0_2, .int .i64 a0_3], .agg #[.int .i64 a1_0, .int .i64 a1_1, .int .i64 a1_2, .int .i64 a1_3]] w fun e w' => e = .returned (.bool r) ∧ Below w.heap.size w w' := by
 have hu30 := Try.underlying30
 have HB := Aside0.mk (Below.refl w.heap.size w)
 have H := h
 unfold impl_ValIn.f at H
 clear h
 have HC3 := Aside0.mk H
 clear H
 go_enter Try.func81, Try.ntmps81
 go_upto_region 1 with (first | ((with_reducible refine gate_dst (N := 2) rfl ?_); refine sqx 2 #[.int .i64 a0_0, .int .i64 a0_1, .int .i64 a0_2, .int .i64 a0_3] 30 ?_; intro gb252 hg w4 hbox hb; have BK252 := Aside0.mk hbox; have GW252 := sqg HB hg; replace HB := sqs HB hb; clear hb hbox hg) | ((with_reducible refine gate_dst (N := 3) rfl ?_); refine sqx 3 #[.int .i64 a1_0, .int .i64 a1_1, .int .i64 a1_2, .int .i64 a1_3] 30 ?_; intro gb253 hg w5 hbox hb; have BK253 := Aside0.mk hbox; have GW253 := sqg HB hg; have NB252_253 := sqn BK252 hg; have NB253_252 := sqm BK252 hg; replace BK252 := sqb BK252 hb; replace HB := sqs HB hb; clear hb hbox hg))
 (try simp only [Act.put, List.setIfInBounds_toArray, List.set_cons_zero, List.set_cons_succ])
 go_cut [12] (fun v12 wc => ∃ (kq : Nat) (x12_2 : Bool), v12 = .bool x12_2 ∧ Aside0 (impl_ValIn.j0 kq x12_2 a0_0 a0_1 a0_2 a0_3 a1_0 a1_1 a1_2 a1_3 = some r) ∧ Aside0 (kq ≤ k) ∧ Aside0 (wc.heap[gb252]? = some (.cells #[.int .i64 a0_0, .int .i64 a0_1, .int .i64 a0_2, .int .i64 a0_3] 30 (0, 0))) ∧ Aside0 (wc.heap[gb253]? = some (.cells #[.int .i64 a1_0, .int .i64 a1_1, .int .i64 a1_2, .int .i64 a1_3] 30 (0, 0))) ∧ Aside0 (Below w.heap.size w wc))
 case first =>
  have H := HC3.out
  clear HC3
  replace H := sqbi H
  obtain ⟨t254, A6, H⟩ := H
  try dsimp only at H
  rcases sqI (t254 = true) with c7 | c7
  ·replace c7 := Bool.eq_false_iff.mpr c7
   subst c7
   have H1 : (impl_ValIn.j0 k true a0_0 a0_1 a0_2 a0_3 a1_0 a1_1 a1_2 a1_3) = some r := by rw [if_neg (show ¬ (false = true) by decide)] at H; exact H
   clear H
   have H := H1
   clear H1
   have H' := Aside0.mk H
   clear H
   obtain ⟨_, _⟩ := sqN1 NB252_253
   obtain ⟨_, _, _, _, _, _, _, _⟩ := sqc4 BK252
   go_wp2_with (first | ((with_reducible refine gate_callee (f := 18) rfl ?_); refine sqL (some 6) Try.func18 #[.agg #[.int .i64 a0_0, .int .i64 a0_1, .int .i64 a0_2, .int .i64 a0_3]] ?_; (with_reducible refine (impl_ValOk.calls k a0_0 a0_1 a0_2 a0_3 false _ A6.out).mono ?_); rintro e w16 ⟨rfl, hb⟩; refine ⟨_, rfl, ?_⟩; refine sqM2 BK252 BK253 hb ?_; clear BK252 BK253; intro BK252 BK253; replace HB := sqs HB hb; (try clear hb)))
   go_meet
   case rel => exact ⟨_, (true), (by first | rfl | (simp; done) | (simp [*]; done)), H', ⟨by first | omega | exact Nat.le_refl _⟩, sqk BK252, sqk BK253, sqh HB⟩
  subst c7
  have H1 : ((impl_ValOk.f k a1_0 a1_1 a1_2 a1_3).bind fun t255 => (impl_ValIn.j0 k (!t255) a0_0 a0_1 a0_2 a0_3 a1_0 a1_1 a1_2 a1_3)) = some r := by rw [if_pos rfl] at H; exact H
  clear H
  have H := H1
  clear H1
  replace H := sqbi H
  obtain ⟨t255, A8, H⟩ := H
  try dsimp only at H
  have H' := Aside0.mk H
  clear H
  obtain ⟨_, _⟩ := sqN1 NB252_253
  obtain ⟨_, _, _, _, _, _, _, _⟩ := sqc4 BK252
  go_wp2_with (first | ((with_reducible refine gate_callee (f := 18) rfl ?_); refine sqL (some 6) Try.func18 #[.agg #[.int .i64 a0_0, .int .i64 a0_1, .int .i64 a0_2, .int .i64 a0_3]] ?_; (with_reducible refine (impl_ValOk.calls k a0_0 a0_1 a0_2 a0_3 true _ A6.out).mono ?_); rintro e w11 ⟨rfl, hb⟩; refine ⟨_, rfl, ?_⟩; refine sqM2 BK252 BK253 hb ?_; clear BK252 BK253; intro BK252 BK253; replace HB := sqs HB hb; (try clear hb); obtain ⟨_, _, _, _, _, _, _, _⟩ := sqc4 BK253) | (go_at_call 18; (with_reducible refine (impl_ValOk.calls k a1_0 a1_1 a1_2 a1_3 t255 _ A8.out).mono ?_); rintro e w13 ⟨rfl, hb⟩; refine sqM2 BK252 BK253 hb ?_; clear BK252 BK253; intro BK252 BK253; replace HB := sqs HB hb; (try clear hb)))
  go_meet
  case rel => exact ⟨_, (!t255), (by first | rfl | (simp; done) | (simp [*]; done)), H', ⟨by first | omega | exact Nat.le_refl _⟩, sqk BK252, sqk BK253, sqh HB⟩
 case rest =>
  clear HC3
  obtain ⟨kq, x12_2, rfl, HA, HJ2, BK252, BK253, HB⟩ := hcut
  cases kq with
  | zero => exact absurd HA.out (by simp [impl_ValIn.j0])
  | succ kj2 =>
   have H := HA.out
   clear HA
   simp only [impl_ValIn.j0] at H
   by_cases c17 : x12_2 = true
   ·subst c17
    have H1 : (some false) = some r := by rw [if_pos rfl] at H; exact H
    clear H
    have H := H1
    clear H1
    obtain rfl := Option.some.inj H
    go_wp2
    go_ret
    exact sqe HB
   replace c17 := Bool.eq_false_iff.mpr c17
   subst c17
   have H1 : ((impl_Val_none.f a0_0 a0_1 a0_2 a0_3).bind fun t256 => (if t256 = true then (some true) else ((impl_Val_none.f a1_0 a1_1 a1_2 a1_3).bind fun t257 => (if t257 = true then (some false) else ((impl_Val_span.f a0_0 a0_1 a0_2 a0_3).bind fun bt258 => ((impl_Val_span.f a1_0 a1_1 a1_2 a1_3).bind fun bt260 => ((impl_RangeIn.f bt258.1 bt258.2 bt260.1 bt260.2).bind fun t262 => (if t262 = true then ((impl_Val_rest.f a0_0 a0_1 a0_2 a0_3).bind fun bt263 => ((impl_Val_rest.f a1_0 a1_1 a1_2 a1_3).bind fun bt265 => ((impl_RestIn.f kj2 bt263.1 bt263.2 bt265.1 bt265.2).bind fun t267 => (some t267)))) else (some false))))))))) = some r := by rw [if_neg (show ¬ (false = true) by decide)] at H; exact H
   clear H
   have H := H1
   clear H1
   replace H := sqbi H
   obtain ⟨t256, A18, H⟩ := H
   try dsimp only at H
   by_cases c19 : t256 = true
   ·subst c19
    have H1 : (some true) = some r := by rw [if_pos rfl] at H; exact H
    clear H
    have H := H1
    clear H1
    obtain rfl := Option.some.inj H
    obtain ⟨_, _⟩ := sqN1 NB252_253
    obtain ⟨_, _, _, _, _, _, _, _⟩ := sqc4 BK252
    go_wp2_with (first | ((with_reducible refine gate_callee (f := 144) rfl ?_); refine sqL (some 14) Try.func144 #[.agg #[.int .i64 a0_0, .int .i64 a0_1, .int .i64 a0_2, .int .i64 a0_3]] ?_; (with_reducible refine (impl_Val_none.calls a0_0 a0_1 a0_2 a0_3 true _ A18.out).mono ?_); rintro e w22 ⟨rfl, hb⟩; refine ⟨_, rfl, ?_⟩; refine sqM2 BK252 BK253 hb ?_; clear BK252 BK253; intro BK252 BK253; replace HB := sqs HB hb; (try clear hb)))
    go_ret
    exact sqe HB
   replace c19 := Bool.eq_false_iff.mpr c19
   subst c19
   have H1 : ((impl_Val_none.f a1_0 a1_1 a1_2 a1_3).bind fun t257 => (if t257 = true then (some false) else ((impl_Val_span.f a0_0 a0_1 a0_2 a0_3).bind fun bt258 => ((impl_Val_span.f a1_0 a1_1 a1_2 a1_3).bind fun bt260 => ((impl_RangeIn.f bt258.1 bt258.2 bt260.1 bt260.2).bind fun t262 => (if t262 = true then ((impl_Val_rest.f a0_0 a0_1 a0_2 a0_3).bind fun bt263 => ((impl_Val_rest.f a1_0 a1_1 a1_2 a1_3).bind fun bt265 => ((impl_RestIn.f kj2 bt263.1 bt263.2 bt265.1 bt265.2).bind fun t267 => (some t267)))) else (some false))))))) = some r := by rw [if_neg (show ¬ (false = true) by decide)] at H; exact H
   clear H
   have H := H1
   clear H1
   replace H := sqbi H
   obtain ⟨t257, A23, H⟩ := H
   try dsimp only at H
   by_cases c24 : t257 = true
   ·subst c24
    have H1 : (some false) = some r := by rw [if_pos rfl] at H; exact H
    clear H
    have H := H1
    clear H1
    obtain rfl := Option.some.inj H
    obtain ⟨_, _⟩ := sqN1 NB252_253
    obtain ⟨_, _, _, _, _, _, _, _⟩ := sqc4 BK252
    try go_wp2_with (first | ((with_reducible refine gate_callee (f := 144) rfl ?_); refine sqL (some 14) Try.func144 #[.agg #[.int .i64 a0_0, .int .i64 a0_1, .int .i64 a0_2, .int .i64 a0_3]] ?_; (with_reducible refine (impl_Val_none.calls a0_0 a0_1 a0_2 a0_3 false _ A18.out).mono ?_); rintro e w27 ⟨rfl, hb⟩; refine ⟨_, rfl, ?_⟩; refine sqM2 BK252 BK253 hb ?_; clear BK252 BK253; intro BK252 BK253; replace HB := sqs HB hb; (try clear hb)))
    replace BK252 := sqdr BK252
    replace BK253 := sqdr BK253
    replace HB := sqdB HB
    refine sqst 18 (fun w' => w'.cell? ⟨gb253, 0, none⟩ = some (.int .i64 a1_0) ∧ w'.cell? ⟨gb253, 1, none⟩ = some (.int .i64 a1_1) ∧ w'.cell? ⟨gb253, 2, none⟩ = some (.int .i64 a1_2) ∧ w'.cell? ⟨gb253, 3, none⟩ = some (.int .i64 a1_3)) sqz (fun hHeld => ?_); refine with_tabW impl_ValIn.tab5 impl_ValIn.bits5 (fun HT_ HW_ => ?_)
    generalize w27.drew = w28 at BK252 BK253 HB hHeld ⊢
    refine sqw HT_ HW_ 0 15 hHeld ?_
    refine sqo HT_ 1 16 (fun K hK => ?_)
    refine sqG Try.func144 #[.agg #[.int .i64 a1_0, .int .i64 a1_1, .int .i64 a1_2, .int .i64 a1_3]] ?_
    with_reducible refine (impl_Val_none.calls a1_0 a1_1 a1_2 a1_3 true _ A23.out).mono ?_
    rintro e w29 ⟨rfl, hb⟩
    refine ⟨_, rfl, ?_⟩
    refine sqM2 BK252 BK253 hb ?_; clear BK252 BK253; intro BK252 BK253
    replace HB := sqs HB hb
    (try clear hb)
    refine hK.out _ _ sqz (fun hHeld => ?_)
    clear hK K
    refine sqnm ?_
    refine sqp HT_ 2 17 ?_
    refine sqp HT_ 3 18 ?_
    refine sqpu HT_ 4 19 ?_
    refine sqpu HT_ 5 20 ?_
    refine sqpu HT_ 6 21 ?_
    refine sqpu HT_ 7 22 ?_
    refine sqpu HT_ 8 23 ?_
    refine sqp HT_ 9 24 ?_
    refine sqp HT_ 10 25 ?_
    refine sqpu HT_ 11 26 ?_
    refine sqpu HT_ 12 27 ?_
    refine sqpu HT_ 13 28 ?_
    refine sqpu HT_ 14 29 ?_
    refine sqpu HT_ 15 30 ?_
    refine sqp HT_ 16 31 ?_
    refine sqp HT_ 17 4 ?_
    refine done_ (done_of HT_.out (by kernel_rfl)) ?_
    try go_wp2
    go_ret
    exact sqe HB
   replace c24 := Bool.eq_false_iff.mpr c24
   subst c24
   have H1 : ((impl_Val_span.f a0_0 a0_1 a0_2 a0_3).bind fun bt258 => ((impl_Val_span.f a1_0 a1_1 a1_2 a1_3).bind fun bt260 => ((impl_RangeIn.f bt258.1 bt258.2 bt260.1 bt260.2).bind fun t262 => (if t262 = true then ((impl_Val_rest.f a0_0 a0_1 a0_2 a0_3).bind fun bt263 => ((impl_Val_rest.f a1_0 a1_1 a1_2 a1_3).bind fun bt265 => ((impl_RestIn.f kj2 bt263.1 bt263.2 bt265.1 bt265.2).bind fun t267 => (some t267)))) else (some false))))) = some r := by rw [if_neg (show ¬ (false = true) by decide)] at H; exact H
   clear H
   have H := H1
   clear H1
   replace H := sqbi H
   obtain ⟨⟨t258, t259⟩, A30, H⟩ := H
   try dsimp only at H
   replace H := sqbi H
   obtain ⟨⟨t260, t261⟩, A31, H⟩ := H
   try dsimp only at H
   replace H := sqbi H
   obtain ⟨t262, A32, H⟩ := H
   try dsimp only at H
   rcases sqI (t262 = true) with c33 | c33
   ·replace c33 := Bool.eq_false_iff.mpr c33
    subst c33
    have H1 : (some false) = some r := by rw [if_neg (show ¬ (false = true) by decide)] at H; exact H
    clear H
    have H := H1
    clear H1
    obtain rfl := Option.some.inj H
    obtain ⟨_, _⟩ := sqN1 NB252_253
    obtain ⟨_, _, _, _, _, _, _, _⟩ := sqc4 BK252
    try go_wp2_with (first | ((with_reducible refine gate_callee (f := 144) rfl ?_); refine sqL (some 14) Try.func144 #[.agg #[.int .i64 a0_0, .int .i64 a0_1, .int .i64 a0_2, .int .i64 a0_3]] ?_; (with_reducible refine (impl_Val_none.calls a0_0 a0_1 a0_2 a0_3 false _ A18.out).mono ?_); rintro e w50 ⟨rfl, hb⟩; refine ⟨_, rfl, ?_⟩; refine sqM2 BK252 BK253 hb ?_; clear BK252 BK253; intro BK252 BK253; replace HB := sqs HB hb; (try clear hb)))
    replace BK252 := sqdr BK252
    replace BK253 := sqdr BK253
    replace HB := sqdB HB
    refine sqst 18 (fun w' => w'.cell? ⟨gb253, 0, none⟩ = some (.int .i64 a1_0) ∧ w'.cell? ⟨gb253, 1, none⟩ = some (.int .i64 a1_1) ∧ w'.cell? ⟨gb253, 2, none⟩ = some (.int .i64 a1_2) ∧ w'.cell? ⟨gb253, 3, none⟩ = some (.int .i64 a1_3) ∧ w'.cell? ⟨gb252, 0, none⟩ = some (.int .i64 a0_0) ∧ w'.cell? ⟨gb252, 1, none⟩ = some (.int .i64 a0_1) ∧ w'.cell? ⟨gb252, 2, none⟩ = some (.int .i64 a0_2) ∧ w'.cell? ⟨gb252, 3, none⟩ = some (.int .i64 a0_3)) sqz (fun hHeld => ?_); refine with_tabW impl_ValIn.tab5 impl_ValIn.bits5 (fun HT_ HW_ => ?_)
    generalize w50.drew = w51 at BK252 BK253 HB hHeld ⊢
    refine sqw HT_ HW_ 0 15 hHeld ?_
    refine sqo HT_ 1 16 (fun K hK => ?_)
    refine sqG Try.func144 #[.agg #[.int .i64 a1_0, .int .i64 a1_1, .int .i64 a1_2, .int .i64 a1_3]] ?_
    with_reducible refine (impl_Val_none.calls a1_0 a1_1 a1_2 a1_3 false _ A23.out).mono ?_
    rintro e w52 ⟨rfl, hb⟩
    refine ⟨_, rfl, ?_⟩
    refine sqM2 BK252 BK253 hb ?_; clear BK252 BK253; intro BK252 BK253
    replace HB := sqs HB hb
    (try clear hb)
    refine hK.out _ _ sqz (fun hHeld => ?_)
    clear hK K
    refine sqnm ?_
    refine sqp HT_ 2 17 ?_
    refine sqp HT_ 3 18 ?_
    refine sqw HT_ HW_ 4 19 hHeld ?_
    refine sqw HT_ HW_ 6 21 hHeld ?_
    refine sqo HT_ 5 20 (fun K hK => ?_)
    refine sqG Try.func103 #[.agg #[.int .i64 a0_0, .int .i64 a0_1, .int .i64 a0_2, .int .i64 a0_3]] ?_
    with_reducible refine (impl_Val_span.calls a0_0 a0_1 a0_2 a0_3 t258 t259 _ A30.out).mono ?_
    rintro e w53 ⟨rfl, hb⟩
    refine ⟨_, rfl, ?_⟩
    refine sqM2 BK252 BK253 hb ?_; clear BK252 BK253; intro BK252 BK253
    replace HB := sqs HB hb
    (try clear hb)
    refine hK.out _ _ sqz (fun hHeld => ?_)
    clear hK K
    refine sqnm ?_
    refine sqo HT_ 7 22 (fun K hK => ?_)
    refine sqG Try.func103 #[.agg #[.int .i64 a1_0, .int .i64 a1_1, .int .i64 a1_2, .int .i64 a1_3]] ?_
    with_reducible refine (impl_Val_span.calls a1_0 a1_1 a1_2 a1_3 t260 t261 _ A31.out).mono ?_
    rintro e w54 ⟨rfl, hb⟩
    refine ⟨_, rfl, ?_⟩
    refine sqM2 BK252 BK253 hb ?_; clear BK252 BK253; intro BK252 BK253
    replace HB := sqs HB hb
    (try clear hb)
    refine hK.out _ _ sqz (fun hHeld => ?_)
    clear hK K
    refine sqnm ?_
    refine sqo HT_ 8 23 (fun K hK => ?_)
    refine sqG Try.func46 #[.agg #[.int .i64 t258, .int .i64 t259], .agg #[.int .i64 t260, .int .i64 t261]] ?_
    with_reducible refine (impl_RangeIn.calls t258 t259 t260 t261 false _ A32.out).mono ?_
    rintro e w55 ⟨rfl, hb⟩
    refine ⟨_, rfl, ?_⟩
    refine sqM2 BK252 BK253 hb ?_; clear BK252 BK253; intro BK252 BK253
    replace HB := sqs HB hb
    (try clear hb)
    refine hK.out _ _ sqz (fun hHeld => ?_)
    clear hK K
    refine sqnm ?_
    refine sqp HT_ 9 24 ?_
    refine sqp HT_ 10 25 ?_
    refine sqpu HT_ 11 26 ?_
    refine sqpu HT_ 12 27 ?_
    refine sqpu HT_ 13 28 ?_
    refine sqpu HT_ 14 29 ?_
    refine sqpu HT_ 15 30 ?_
    refine sqp HT_ 16 31 ?_
    refine sqp HT_ 17 4 ?_
    refine done_ (done_of HT_.out (by kernel_rfl)) ?_
    try go_wp2
    go_ret
    exact sqe HB
   subst c33
   have H1 : ((impl_Val_rest.f a0_0 a0_1 a0_2 a0_3).bind fun bt263 => ((impl_Val_rest.f a1_0 a1_1 a1_2 a1_3).bind fun bt265 => ((impl_RestIn.f kj2 bt263.1 bt263.2 bt265.1 bt265.2).bind fun t267 => (some t267)))) = some r := by rw [if_pos rfl] at H; exact H
   clear H
   have H := H1
   clear H1
   replace H := sqbi H
   obtain ⟨⟨t263, t264⟩, A34, H⟩ := H
   try dsimp only at H
   replace H := sqbi H
   obtain ⟨⟨t265, t266⟩, A35, H⟩ := H
   try dsimp only at H
   replace H := sqbi H
   obtain ⟨t267, A36, H⟩ := H
   try dsimp only at H
   obtain rfl := Option.some.inj H
   obtain ⟨_, _⟩ := sqN1 NB252_253
   obtain ⟨_, _, _, _, _, _, _, _⟩ := sqc4 BK252
   try go_wp2_with (first | ((with_reducible refine gate_callee (f := 144) rfl ?_); refine sqL (some 14) Try.func144 #[.agg #[.int .i64 a0_0, .int .i64 a0_1, .int .i64 a0_2, .int .i64 a0_3]] ?_; (with_reducible refine (impl_Val_none.calls a0_0 a0_1 a0_2 a0_3 false _ A18.out).mono ?_); rintro e w39 ⟨rfl, hb⟩; refine ⟨_, rfl, ?_⟩; refine sqM2 BK252 BK253 hb ?_; clear BK252 BK253; intro BK252 BK253; replace HB := sqs HB hb; (try clear hb)))
   replace BK252 := sqdr BK252
   replace BK253 := sqdr BK253
   replace HB := sqdB HB
   refine sqst 18 (fun w' => w'.cell? ⟨gb253, 0, none⟩ = some (.int .i64 a1_0) ∧ w'.cell? ⟨gb253, 1, none⟩ = some (.int .i64 a1_1) ∧ w'.cell? ⟨gb253, 2, none⟩ = some (.int .i64 a1_2) ∧ w'.cell? ⟨gb253, 3, none⟩ = some (.int .i64 a1_3) ∧ w'.cell? ⟨gb252, 0, none⟩ = some (.int .i64 a0_0) ∧ w'.cell? ⟨gb252, 1, none⟩ = some (.int .i64 a0_1) ∧ w'.cell? ⟨gb252, 2, none⟩ = some (.int .i64 a0_2) ∧ w'.cell? ⟨gb252, 3, none⟩ = some (.int .i64 a0_3)) sqz (fun hHeld => ?_); refine with_tabW impl_ValIn.tab5 impl_ValIn.bits5 (fun HT_ HW_ => ?_)
   generalize w39.drew = w40 at BK252 BK253 HB hHeld ⊢
   refine sqw HT_ HW_ 0 15 hHeld ?_
   refine sqo HT_ 1 16 (fun K hK => ?_)
   refine sqG Try.func144 #[.agg #[.int .i64 a1_0, .int .i64 a1_1, .int .i64 a1_2, .int .i64 a1_3]] ?_
   with_reducible refine (impl_Val_none.calls a1_0 a1_1 a1_2 a1_3 false _ A23.out).mono ?_
   rintro e w41 ⟨rfl, hb⟩
   refine ⟨_, rfl, ?_⟩
   refine sqM2 BK252 BK253 hb ?_; clear BK252 BK253; intro BK252 BK253
   replace HB := sqs HB hb
   (try clear hb)
   refine hK.out _ _ sqz (fun hHeld => ?_)
   clear hK K
   refine sqnm ?_
   refine sqp HT_ 2 17 ?_
   refine sqp HT_ 3 18 ?_
   refine sqw HT_ HW_ 4 19 hHeld ?_
   refine sqw HT_ HW_ 6 21 hHeld ?_
   refine sqo HT_ 5 20 (fun K hK => ?_)
   refine sqG Try.func103 #[.agg #[.int .i64 a0_0, .int .i64 a0_1, .int .i64 a0_2, .int .i64 a0_3]] ?_
   with_reducible refine (impl_Val_span.calls a0_0 a0_1 a0_2 a0_3 t258 t259 _ A30.out).mono ?_
   rintro e w42 ⟨rfl, hb⟩
   refine ⟨_, rfl, ?_⟩
   refine sqM2 BK252 BK253 hb ?_; clear BK252 BK253; intro BK252 BK253
   replace HB := sqs HB hb
   (try clear hb)
   refine hK.out _ _ sqz (fun hHeld => ?_)
   clear hK K
   refine sqnm ?_
   refine sqo HT_ 7 22 (fun K hK => ?_)
   refine sqG Try.func103 #[.agg #[.int .i64 a1_0, .int .i64 a1_1, .int .i64 a1_2, .int .i64 a1_3]] ?_
   with_reducible refine (impl_Val_span.calls a1_0 a1_1 a1_2 a1_3 t260 t261 _ A31.out).mono ?_
   rintro e w43 ⟨rfl, hb⟩
   refine ⟨_, rfl, ?_⟩
   refine sqM2 BK252 BK253 hb ?_; clear BK252 BK253; intro BK252 BK253
   replace HB := sqs HB hb
   (try clear hb)
   refine hK.out _ _ sqz (fun hHeld => ?_)
   clear hK K
   refine sqnm ?_
   refine sqo HT_ 8 23 (fun K hK => ?_)
   refine sqG Try.func46 #[.agg #[.int .i64 t258, .int .i64 t259], .agg #[.int .i64 t260, .int .i64 t261]] ?_
   with_reducible refine (impl_RangeIn.calls t258 t259 t260 t261 true _ A32.out).mono ?_
   rintro e w44 ⟨rfl, hb⟩
   refine ⟨_, rfl, ?_⟩
   refine sqM2 BK252 BK253 hb ?_; clear BK252 BK253; intro BK252 BK253
   replace HB := sqs HB hb
   (try clear hb)
   refine hK.out _ _ sqz (fun hHeld => ?_)
   clear hK K
   refine sqnm ?_
   refine sqp HT_ 9 24 ?_
   refine sqp HT_ 10 25 ?_
   refine sqw HT_ HW_ 11 26 hHeld ?_
   refine sqw HT_ HW_ 13 28 hHeld ?_
   refine sqo HT_ 12 27 (fun K hK => ?_)
   refine sqG Try.func104 #[.agg #[.int .i64 a0_0, .int .i64 a0_1, .int .i64 a0_2, .int .i64 a0_3]] ?_
   with_reducible refine (impl_Val_rest.calls a0_0 a0_1 a0_2 a0_3 t263 t264 _ A34.out).mono ?_
   rintro e w45 ⟨rfl, hb⟩
   refine ⟨_, rfl, ?_⟩
   refine sqM2 BK252 BK253 hb ?_; clear BK252 BK253; intro BK252 BK253
   replace HB := sqs HB hb
   (try clear hb)
   refine hK.out _ _ sqz (fun hHeld => ?_)
   clear hK K
   refine sqnm ?_
   refine sqo HT_ 14 29 (fun K hK => ?_)
   refine sqG Try.func104 #[.agg #[.int .i64 a1_0, .int .i64 a1_1, .int .i64 a1_2, .int .i64 a1_3]] ?_
   with_reducible refine (impl_Val_rest.calls a1_0 a1_1 a1_2 a1_3 t265 t266 _ A35.out).mono ?_
   rintro e w46 ⟨rfl, hb⟩
   refine ⟨_, rfl, ?_⟩
   refine sqM2 BK252 BK253 hb ?_; clear BK252 BK253; intro BK252 BK253
   replace HB := sqs HB hb
   (try clear hb)
   refine hK.out _ _ sqz (fun hHeld => ?_)
   clear hK K
   refine sqnm ?_
   refine sqo HT_ 15 30 (fun K hK => ?_)
   refine sqG Try.func182 #[.agg #[.int .i64 t263, .int .i64 t264], .agg #[.int .i64 t265, .int .i64 t266]] ?_
   with_reducible refine (impl_RestIn.calls kj2 t263 t264 t265 t266 t267 _ A36.out).mono ?_
   rintro e w47 ⟨rfl, hb⟩
   refine ⟨_, rfl, ?_⟩
   refine sqM2 BK252 BK253 hb ?_; clear BK252 BK253; intro BK252 BK253
   replace HB := sqs HB hb
   (try clear hb)
   refine hK.out _ _ sqz (fun hHeld => ?_)
   clear hK K
   refine sqnm ?_
   refine sqp HT_ 16 31 ?_
   refine sqp HT_ 17 4 ?_
   refine done_ (done_of HT_.out (by kernel_rfl)) ?_
   try go_wp2
   go_ret
   exact sqe HB

end Go.Proofs.Ytkekcenlleebeaa.PFnValLattice
