/- Functions of the program as plain Lean functions, and that calls of them come to what these tell. Conditions: those in each law. -/
import Derived.Test.YtkekcenlleebeaaSq
import Derived.Test.YtkekcenlleebeaaDFnValLattice
import Derived.Test.YtkekcenlleebeaaQFnValLatticex0
import Derived.Test.YtkekcenlleebeaaQFnValLatticex2
import Derived.Test.YtkekcenlleebeaaQFnValLatticex3
import Derived.Test.YtkekcenlleebeaaQFnValLatticex4
import Derived.Test.YtkekcenlleebeaaQFnValLatticex5
namespace Go.Proofs.Ytkekcenlleebeaa.PFnValLattice
open Go.RowKit Go.Proofs.Ytkekcenlleebeaa.Sq Go.Proofs.YtkekcenlleebeaaW.PrintWords Go.Proofs.YtkekcenlleebeaaW.PrintLast Go.Proofs.YtkekcenlleebeaaW.PrintMore
attribute [local go_sem] max2_int min2_int max_two min_two max_three min_three max_four min_four   -- for this text's walks alone
set_option linter.unusedVariables false
set_option linter.unusedSimpArgs false

attribute [local go_sem high] eqA26 eqA30
/-! ### impl_RangeIn: function 46 -/
set_option maxHeartbeats 8000000 in
set_option maxRecDepth 100000 in
theorem impl_RangeIn.calls (a0_0 : Int) (a0_1 : Int) (a1_0 : Int) (a1_1 : Int) (r : Bool) (w : World) (h : impl_RangeIn.f a0_0 a0_1 a1_0 a1_1 = some r) :
  Calls Try.prog 46 #[.agg #[.int .i64 a0_0, .int .i64 a0_1], .agg #[.int .i64 a1_0, .int .i64 a1_1]] w fun e w' => e = .returned (.bool r) ∧ Below w.heap.size w w' := by
 have hu24 := Try.underlying24
 have HB := Aside0.mk (Below.refl w.heap.size w)
 have H := h
 unfold impl_RangeIn.f at H
 clear h
 replace H := sqbi H
 obtain ⟨t239, A3, H⟩ := H
 try dsimp only at H
 rcases sqI (t239 = true) with c4 | c4
 ·replace c4 := Bool.eq_false_iff.mpr c4
  subst c4
  have H1 : (some false) = some r := by rw [if_neg (show ¬ (false = true) by decide)] at H; exact H
  clear H
  have H := H1
  clear H1
  obtain rfl := Option.some.inj H
  go_enter Try.func46, Try.ntmps46
  go_wp2_with (first | ((with_reducible refine gate_dst (N := 2) rfl ?_); refine sqx 2 #[.int .i64 a0_0, .int .i64 a0_1] 24 ?_; intro gb237 hg w48 hbox hb; have BK237 := Aside0.mk hbox; have GW237 := sqg HB hg; replace HB := sqs HB hb; clear hb hbox hg) | ((with_reducible refine gate_dst (N := 3) rfl ?_); refine sqx 3 #[.int .i64 a1_0, .int .i64 a1_1] 24 ?_; intro gb238 hg w49 hbox hb; have BK238 := Aside0.mk hbox; have GW238 := sqg HB hg; have NB237_238 := sqn BK237 hg; have NB238_237 := sqm BK237 hg; replace BK237 := sqb BK237 hb; replace HB := sqs HB hb; clear hb hbox hg; obtain ⟨_, _⟩ := sqN1 NB237_238; obtain ⟨_, _, _, _⟩ := sqc2 BK237) | ((with_reducible refine gate_callee (f := 76) rfl ?_); refine sqL (some 6) Try.func76 #[.agg #[.int .i64 a0_0, .int .i64 a0_1]] ?_; (with_reducible refine (impl_RangeOk.calls a0_0 a0_1 false _ A3.out).mono ?_); rintro e w52 ⟨rfl, hb⟩; refine ⟨_, rfl, ?_⟩; refine sqM2 BK237 BK238 hb ?_; clear BK237 BK238; intro BK237 BK238; replace HB := sqs HB hb; (try clear hb)))
  go_ret
  exact sqe HB
 subst c4
 have H1 : ((impl_RangeOk.f a1_0 a1_1).bind fun t240 => (if t240 = true then ((impl_Range_empty.f a0_0 a0_1).bind fun t241 => (if t241 = true then (some true) else (if a1_0 ≤ a0_0 then (some (decide (a0_1 ≤ a1_1))) else (some false)))) else (some false))) = some r := by rw [if_pos rfl] at H; exact H
 clear H
 have H := H1
 clear H1
 replace H := sqbi H
 obtain ⟨t240, A5, H⟩ := H
 try dsimp only at H
 rcases sqI (t240 = true) with c6 | c6
 ·replace c6 := Bool.eq_false_iff.mpr c6
  subst c6
  have H1 : (some false) = some r := by rw [if_neg (show ¬ (false = true) by decide)] at H; exact H
  clear H
  have H := H1
  clear H1
  obtain rfl := Option.some.inj H
  go_enter Try.func46, Try.ntmps46
  go_wp2_with (first | ((with_reducible refine gate_dst (N := 2) rfl ?_); refine sqx 2 #[.int .i64 a0_0, .int .i64 a0_1] 24 ?_; intro gb237 hg w41 hbox hb; have BK237 := Aside0.mk hbox; have GW237 := sqg HB hg; replace HB := sqs HB hb; clear hb hbox hg) | ((with_reducible refine gate_dst (N := 3) rfl ?_); refine sqx 3 #[.int .i64 a1_0, .int .i64 a1_1] 24 ?_; intro gb238 hg w42 hbox hb; have BK238 := Aside0.mk hbox; have GW238 := sqg HB hg; have NB237_238 := sqn BK237 hg; have NB238_237 := sqm BK237 hg; replace BK237 := sqb BK237 hb; replace HB := sqs HB hb; clear hb hbox hg; obtain ⟨_, _⟩ := sqN1 NB237_238; obtain ⟨_, _, _, _⟩ := sqc2 BK237) | ((with_reducible refine gate_callee (f := 76) rfl ?_); refine sqL (some 6) Try.func76 #[.agg #[.int .i64 a0_0, .int .i64 a0_1]] ?_; (with_reducible refine (impl_RangeOk.calls a0_0 a0_1 true _ A3.out).mono ?_); rintro e w45 ⟨rfl, hb⟩; refine ⟨_, rfl, ?_⟩; refine sqM2 BK237 BK238 hb ?_; clear BK237 BK238; intro BK237 BK238; replace HB := sqs HB hb; (try clear hb); obtain ⟨_, _, _, _⟩ := sqc2 BK238) | (go_at_call 76; (with_reducible refine (impl_RangeOk.calls a1_0 a1_1 false _ A5.out).mono ?_); rintro e w47 ⟨rfl, hb⟩; refine sqM2 BK237 BK238 hb ?_; clear BK237 BK238; intro BK237 BK238; replace HB := sqs HB hb; (try clear hb)))
  go_ret
  exact sqe HB
 subst c6
 have H1 : ((impl_Range_empty.f a0_0 a0_1).bind fun t241 => (if t241 = true then (some true) else (if a1_0 ≤ a0_0 then (some (decide (a0_1 ≤ a1_1))) else (some false)))) = some r := by rw [if_pos rfl] at H; exact H
 clear H
 have H := H1
 clear H1
 replace H := sqbi H
 obtain ⟨t241, A7, H⟩ := H
 try dsimp only at H
 by_cases c8 : t241 = true
 ·subst c8
  have H1 : (some true) = some r := by rw [if_pos rfl] at H; exact H
  clear H
  have H := H1
  clear H1
  obtain rfl := Option.some.inj H
  go_enter Try.func46, Try.ntmps46
  go_wp2_with (first | ((with_reducible refine gate_dst (N := 2) rfl ?_); refine sqx 2 #[.int .i64 a0_0, .int .i64 a0_1] 24 ?_; intro gb237 hg w9 hbox hb; have BK237 := Aside0.mk hbox; have GW237 := sqg HB hg; replace HB := sqs HB hb; clear hb hbox hg) | ((with_reducible refine gate_dst (N := 3) rfl ?_); refine sqx 3 #[.int .i64 a1_0, .int .i64 a1_1] 24 ?_; intro gb238 hg w10 hbox hb; have BK238 := Aside0.mk hbox; have GW238 := sqg HB hg; have NB237_238 := sqn BK237 hg; have NB238_237 := sqm BK237 hg; replace BK237 := sqb BK237 hb; replace HB := sqs HB hb; clear hb hbox hg; obtain ⟨_, _⟩ := sqN1 NB237_238; obtain ⟨_, _, _, _⟩ := sqc2 BK237) | ((with_reducible refine gate_callee (f := 76) rfl ?_); refine sqL (some 6) Try.func76 #[.agg #[.int .i64 a0_0, .int .i64 a0_1]] ?_; (with_reducible refine (impl_RangeOk.calls a0_0 a0_1 true _ A3.out).mono ?_); rintro e w13 ⟨rfl, hb⟩; refine ⟨_, rfl, ?_⟩; refine sqM2 BK237 BK238 hb ?_; clear BK237 BK238; intro BK237 BK238; replace HB := sqs HB hb; (try clear hb); obtain ⟨_, _, _, _⟩ := sqc2 BK238) | (go_at_call 76; (with_reducible refine (impl_RangeOk.calls a1_0 a1_1 true _ A5.out).mono ?_); rintro e w15 ⟨rfl, hb⟩; refine sqM2 BK237 BK238 hb ?_; clear BK237 BK238; intro BK237 BK238; replace HB := sqs HB hb; (try clear hb); obtain ⟨_, _, _, _⟩ := sqc2 BK237) | ((with_reducible refine gate_callee (f := 95) rfl ?_); refine sqL (some 14) Try.func95 #[.agg #[.int .i64 a0_0, .int .i64 a0_1]] ?_; (with_reducible refine (impl_Range_empty.calls a0_0 a0_1 true _ A7.out).mono ?_); rintro e w17 ⟨rfl, hb⟩; refine ⟨_, rfl, ?_⟩; refine sqM2 BK237 BK238 hb ?_; clear BK237 BK238; intro BK237 BK238; replace HB := sqs HB hb; (try clear hb)))
  go_ret
  exact sqe HB
 replace c8 := Bool.eq_false_iff.mpr c8
 subst c8
 have H1 : (if a1_0 ≤ a0_0 then (some (decide (a0_1 ≤ a1_1))) else (some false)) = some r := by rw [if_neg (show ¬ (false = true) by decide)] at H; exact H
 clear H
 have H := H1
 clear H1
 replace H := sqj H
 rcases H with ⟨c18, H⟩ | ⟨c18, H⟩
 ·have c18b0 := decide_eq_true c18
  clear c18
  obtain rfl := Option.some.inj H
  go_enter Try.func46, Try.ntmps46
  go_wp2_with (first | ((with_reducible refine gate_dst (N := 2) rfl ?_); refine sqx 2 #[.int .i64 a0_0, .int .i64 a0_1] 24 ?_; intro gb237 hg w19 hbox hb; have BK237 := Aside0.mk hbox; have GW237 := sqg HB hg; replace HB := sqs HB hb; clear hb hbox hg) | ((with_reducible refine gate_dst (N := 3) rfl ?_); refine sqx 3 #[.int .i64 a1_0, .int .i64 a1_1] 24 ?_; intro gb238 hg w20 hbox hb; have BK238 := Aside0.mk hbox; have GW238 := sqg HB hg; have NB237_238 := sqn BK237 hg; have NB238_237 := sqm BK237 hg; replace BK237 := sqb BK237 hb; replace HB := sqs HB hb; clear hb hbox hg; obtain ⟨_, _⟩ := sqN1 NB237_238; obtain ⟨_, _, _, _⟩ := sqc2 BK237) | ((with_reducible refine gate_callee (f := 76) rfl ?_); refine sqL (some 6) Try.func76 #[.agg #[.int .i64 a0_0, .int .i64 a0_1]] ?_; (with_reducible refine (impl_RangeOk.calls a0_0 a0_1 true _ A3.out).mono ?_); rintro e w23 ⟨rfl, hb⟩; refine ⟨_, rfl, ?_⟩; refine sqM2 BK237 BK238 hb ?_; clear BK237 BK238; intro BK237 BK238; replace HB := sqs HB hb; (try clear hb); obtain ⟨_, _, _, _⟩ := sqc2 BK238) | (go_at_call 76; (with_reducible refine (impl_RangeOk.calls a1_0 a1_1 true _ A5.out).mono ?_); rintro e w25 ⟨rfl, hb⟩; refine sqM2 BK237 BK238 hb ?_; clear BK237 BK238; intro BK237 BK238; replace HB := sqs HB hb; (try clear hb); obtain ⟨_, _, _, _⟩ := sqc2 BK237) | ((with_reducible refine gate_callee (f := 95) rfl ?_); refine sqL (some 14) Try.func95 #[.agg #[.int .i64 a0_0, .int .i64 a0_1]] ?_; (with_reducible refine (impl_Range_empty.calls a0_0 a0_1 false _ A7.out).mono ?_); rintro e w27 ⟨rfl, hb⟩; refine ⟨_, rfl, ?_⟩; refine sqM2 BK237 BK238 hb ?_; clear BK237 BK238; intro BK237 BK238; replace HB := sqs HB hb; (try clear hb); obtain ⟨_, _, _, _⟩ := sqc2 BK238; obtain ⟨_, _, _, _⟩ := sqc2 BK237))
  go_ret
  exact sqe HB
 have c18b0 := decide_eq_false c18
 clear c18
 obtain rfl := Option.some.inj H
 go_enter Try.func46, Try.ntmps46
 go_wp2_with (first | ((with_reducible refine gate_dst (N := 2) rfl ?_); refine sqx 2 #[.int .i64 a0_0, .int .i64 a0_1] 24 ?_; intro gb237 hg w30 hbox hb; have BK237 := Aside0.mk hbox; have GW237 := sqg HB hg; replace HB := sqs HB hb; clear hb hbox hg) | ((with_reducible refine gate_dst (N := 3) rfl ?_); refine sqx 3 #[.int .i64 a1_0, .int .i64 a1_1] 24 ?_; intro gb238 hg w31 hbox hb; have BK238 := Aside0.mk hbox; have GW238 := sqg HB hg; have NB237_238 := sqn BK237 hg; have NB238_237 := sqm BK237 hg; replace BK237 := sqb BK237 hb; replace HB := sqs HB hb; clear hb hbox hg; obtain ⟨_, _⟩ := sqN1 NB237_238; obtain ⟨_, _, _, _⟩ := sqc2 BK237) | ((with_reducible refine gate_callee (f := 76) rfl ?_); refine sqL (some 6) Try.func76 #[.agg #[.int .i64 a0_0, .int .i64 a0_1]] ?_; (with_reducible refine (impl_RangeOk.calls a0_0 a0_1 true _ A3.out).mono ?_); rintro e w34 ⟨rfl, hb⟩; refine ⟨_, rfl, ?_⟩; refine sqM2 BK237 BK238 hb ?_; clear BK237 BK238; intro BK237 BK238; replace HB := sqs HB hb; (try clear hb); obtain ⟨_, _, _, _⟩ := sqc2 BK238) | (go_at_call 76; (with_reducible refine (impl_RangeOk.calls a1_0 a1_1 true _ A5.out).mono ?_); rintro e w36 ⟨rfl, hb⟩; refine sqM2 BK237 BK238 hb ?_; clear BK237 BK238; intro BK237 BK238; replace HB := sqs HB hb; (try clear hb); obtain ⟨_, _, _, _⟩ := sqc2 BK237) | ((with_reducible refine gate_callee (f := 95) rfl ?_); refine sqL (some 14) Try.func95 #[.agg #[.int .i64 a0_0, .int .i64 a0_1]] ?_; (with_reducible refine (impl_Range_empty.calls a0_0 a0_1 false _ A7.out).mono ?_); rintro e w38 ⟨rfl, hb⟩; refine ⟨_, rfl, ?_⟩; refine sqM2 BK237 BK238 hb ?_; clear BK237 BK238; intro BK237 BK238; replace HB := sqs HB hb; (try clear hb); obtain ⟨_, _, _, _⟩ := sqc2 BK238; obtain ⟨_, _, _, _⟩ := sqc2 BK237))
 go_ret
 exact sqe HB

/-! ### impl_Val_none: function 144 -/
set_option maxHeartbeats 8000000 in
set_option maxRecDepth 100000 in
theorem impl_Val_none.calls (a0_0 : Int) (a0_1 : Int) (a0_2 : Int) (a0_3 : Int) (r : Bool) (w : World) (h : impl_Val_none.f a0_0 a0_1 a0_2 a0_3 = some r) :
  Calls Try.prog 144 #[.agg #[.int .i64 a0_0, .int .i64 a0_1, .int .i64 a0_2, .int .i64 a0_3]] w fun e w' => e = .returned (.bool r) ∧ Below w.heap.size w w' := by
 have hu30 := Try.underlying30
 have HB := Aside0.mk (Below.refl w.heap.size w)
 have H := h
 unfold impl_Val_none.f at H
 clear h
 replace H := sqbi H
 obtain ⟨⟨t243, t244, t245, t246⟩, A2, H⟩ := H
 try dsimp only at H
 obtain rfl := Option.some.inj H
 go_enter Try.func144, Try.ntmps144
 try go_wp2_with (first | ((with_reducible refine gate_dst (N := 1) rfl ?_); refine sqx 1 #[.int .i64 a0_0, .int .i64 a0_1, .int .i64 a0_2, .int .i64 a0_3] 30 ?_; intro gb242 hg w3 hbox hb; have BK242 := Aside0.mk hbox; have GW242 := sqg HB hg; replace HB := sqs HB hb; clear hb hbox hg))
 replace BK242 := sqdr BK242
 replace HB := sqdB HB
 refine sqst 4 (fun w' => w'.cell? ⟨gb242, 0, none⟩ = some (.int .i64 a0_0) ∧ w'.cell? ⟨gb242, 1, none⟩ = some (.int .i64 a0_1) ∧ w'.cell? ⟨gb242, 2, none⟩ = some (.int .i64 a0_2) ∧ w'.cell? ⟨gb242, 3, none⟩ = some (.int .i64 a0_3)) sqz (fun hHeld => ?_)
 generalize w3.drew = w4 at BK242 HB hHeld ⊢
 refine take_ (i := 0) (N := some 3) (v := ?_) (a' := ?_) #[true, false, false, false] rfl rfl (by kernel_rfl) (fun _ _ _ h => h) (Or.inl ⟨by rfl, ?_⟩) hHeld ?_ ?_
 rotate_left
 ·rintro w' ⟨s0, s1, s2, s3⟩
  go_simp
  with_reducible rfl
 rotate_left
 ·simp only [Act.put, List.setIfInBounds_toArray, List.set_cons_zero, List.set_cons_succ, i64_w, i32_w]
  rfl
 refine one_ (i := 1) (N := some 4) #[true, true, false, false] rfl rfl (by kernel_rfl) (by decide) (fun K hK => ?_)
 refine sqG Try.func96 #[] ?_
 with_reducible refine (impl_valNone.calls  t243 t244 t245 t246 _ A2.out).mono ?_
 rintro e w5 ⟨rfl, hb⟩
 refine ⟨_, rfl, ?_⟩
 replace BK242 := sqb BK242 hb
 replace HB := sqs HB hb
 (try clear hb)
 refine hK.out _ _ sqz (fun hHeld => ?_)
 clear hK K
 refine sqnm ?_
 refine pure_ (i := 2) (N := some 5) (v := ?_) (a' := ?_) #[true, true, true, false] rfl rfl (by kernel_rfl) (fun _ _ _ h => h) (Or.inl ⟨by rfl, ?_⟩) ?_ ?_
 rotate_left
 ·intro w'
  go_simp
  with_reducible rfl
 rotate_left
 ·simp only [Act.put, List.setIfInBounds_toArray, List.set_cons_zero, List.set_cons_succ, i64_w, i32_w]
  rfl
 refine pure_ (i := 3) (N := some 2) (v := ?_) (a' := ?_) #[true, true, true, true] rfl rfl (by kernel_rfl) (fun _ _ _ h => h) (Or.inl ⟨by rfl, ?_⟩) ?_ ?_
 rotate_left
 ·intro w'
  go_simp
  with_reducible rfl
 rotate_left
 ·simp only [Act.put, List.setIfInBounds_toArray, List.set_cons_zero, List.set_cons_succ, i64_w, i32_w]
  rfl
 refine done_ (by kernel_rfl) ?_
 try go_wp2
 go_ret
 exact sqe HB

/-! ### impl_RestIn: function 182 -/
set_option maxHeartbeats 8000000 in
set_option maxRecDepth 100000 in
theorem impl_RestIn.calls (k : Nat) (a0_0 : Int) (a0_1 : Int) (a1_0 : Int) (a1_1 : Int) (r : Bool) (w : World) (h : impl_RestIn.f k a0_0 a0_1 a1_0 a1_1 = some r) :
  Calls Try.prog 182 #[.agg #[.int .i64 a0_0, .int .i64 a0_1], .agg #[.int .i64 a1_0, .int .i64 a1_1]] w fun e w' => e = .returned (.bool r) ∧ Below w.heap.size w w' := by
 have hu26 := Try.underlying26
 have HB := Aside0.mk (Below.refl w.heap.size w)
 have H := h
 unfold impl_RestIn.f at H
 clear h
 have HC3 := Aside0.mk H
 clear H
 go_enter Try.func182, Try.ntmps182
 go_upto_region 1 with (first | ((with_reducible refine gate_dst (N := 2) rfl ?_); refine sqx 2 #[.int .i64 a0_0, .int .i64 a0_1] 26 ?_; intro gb247 hg w4 hbox hb; have BK247 := Aside0.mk hbox; have GW247 := sqg HB hg; replace HB := sqs HB hb; clear hb hbox hg) | ((with_reducible refine gate_dst (N := 3) rfl ?_); refine sqx 3 #[.int .i64 a1_0, .int .i64 a1_1] 26 ?_; intro gb248 hg w5 hbox hb; have BK248 := Aside0.mk hbox; have GW248 := sqg HB hg; have NB247_248 := sqn BK247 hg; have NB248_247 := sqm BK247 hg; replace BK247 := sqb BK247 hb; replace HB := sqs HB hb; clear hb hbox hg))
 repeat (go_quiet (first | ((with_reducible refine gate_dst (N := 2) rfl ?_); refine sqx 2 #[.int .i64 a0_0, .int .i64 a0_1] 26 ?_; intro gb247 hg w4 hbox hb; have BK247 := Aside0.mk hbox; have GW247 := sqg HB hg; replace HB := sqs HB hb; clear hb hbox hg) | ((with_reducible refine gate_dst (N := 3) rfl ?_); refine sqx 3 #[.int .i64 a1_0, .int .i64 a1_1] 26 ?_; intro gb248 hg w5 hbox hb; have BK248 := Aside0.mk hbox; have GW248 := sqg HB hg; have NB247_248 := sqn BK247 hg; have NB248_247 := sqm BK247 hg; replace BK247 := sqb BK247 hb; replace HB := sqs HB hb; clear hb hbox hg)); go_upto_region 1 with (first | ((with_reducible refine gate_dst (N := 2) rfl ?_); refine sqx 2 #[.int .i64 a0_0, .int .i64 a0_1] 26 ?_; intro gb247 hg w4 hbox hb; have BK247 := Aside0.mk hbox; have GW247 := sqg HB hg; replace HB := sqs HB hb; clear hb hbox hg) | ((with_reducible refine gate_dst (N := 3) rfl ?_); refine sqx 3 #[.int .i64 a1_0, .int .i64 a1_1] 26 ?_; intro gb248 hg w5 hbox hb; have BK248 := Aside0.mk hbox; have GW248 := sqg HB hg; have NB247_248 := sqn BK247 hg; have NB248_247 := sqm BK247 hg; replace BK247 := sqb BK247 hb; replace HB := sqs HB hb; clear hb hbox hg)))
 (try simp only [Act.put, List.setIfInBounds_toArray, List.set_cons_zero, List.set_cons_succ])
 go_cut [12] (fun v12 wc => ∃ (kq : Nat) (x12_2 : Bool), v12 = .bool x12_2 ∧ Aside0 (impl_RestIn.j0 kq x12_2 a0_0 a0_1 a1_0 a1_1 = some r) ∧ Aside0 (kq ≤ k) ∧ Aside0 (wc.heap[gb247]? = some (.cells #[.int .i64 a0_0, .int .i64 a0_1] 26 (0, 0))) ∧ Aside0 (wc.heap[gb248]? = some (.cells #[.int .i64 a1_0, .int .i64 a1_1] 26 (0, 0))) ∧ Aside0 (Below w.heap.size w wc))
 case first =>
  have H := HC3.out
  clear HC3
  replace H := sqbi H
  obtain ⟨t249, A6, H⟩ := H
  try dsimp only at H
  rcases sqI (t249 = true) with c7 | c7
  ·replace c7 := Bool.eq_false_iff.mpr c7
   subst c7
   have H1 : (impl_RestIn.j0 k true a0_0 a0_1 a1_0 a1_1) = some r := by rw [if_neg (show ¬ (false = true) by decide)] at H; exact H
   clear H
   have H := H1
   clear H1
   have H' := Aside0.mk H
   clear H
   obtain ⟨hnb14, hnc14⟩ := sqN1 NB247_248
   obtain ⟨hcz15_0, hcz15_1, hfz15_0, hfz15_1⟩ := sqc2 BK247
   go_wp2_with (first | (go_at_call 65; (with_reducible refine (impl_RestOk.calls a0_0 a0_1 false _ A6.out).mono ?_); rintro e w16 ⟨rfl, hb⟩; refine sqM2 BK247 BK248 hb ?_; clear BK247 BK248; intro BK247 BK248; replace HB := sqs HB hb; (try clear hb)))
   repeat (go_quiet (first | (go_at_call 65; (with_reducible refine (impl_RestOk.calls a0_0 a0_1 false _ A6.out).mono ?_); rintro e w16 ⟨rfl, hb⟩; refine sqM2 BK247 BK248 hb ?_; clear BK247 BK248; intro BK247 BK248; replace HB := sqs HB hb; (try clear hb))); try go_wp2_with (first | (go_at_call 65; (with_reducible refine (impl_RestOk.calls a0_0 a0_1 false _ A6.out).mono ?_); rintro e w16 ⟨rfl, hb⟩; refine sqM2 BK247 BK248 hb ?_; clear BK247 BK248; intro BK247 BK248; replace HB := sqs HB hb; (try clear hb))))
   go_meet
   case rel => exact ⟨_, (true), (by first | rfl | (simp; done) | (simp [*]; done)), H', ⟨by first | omega | exact Nat.le_refl _⟩, sqk BK247, sqk BK248, sqh HB⟩
  subst c7
  have H1 : ((impl_RestOk.f a1_0 a1_1).bind fun t250 => (impl_RestIn.j0 k (!t250) a0_0 a0_1 a1_0 a1_1)) = some r := by rw [if_pos rfl] at H; exact H
  clear H
  have H := H1
  clear H1
  replace H := sqbi H
  obtain ⟨t250, A8, H⟩ := H
  try dsimp only at H
  have H' := Aside0.mk H
  clear H
  obtain ⟨hnb9, hnc9⟩ := sqN1 NB247_248
  obtain ⟨hcz10_0, hcz10_1, hfz10_0, hfz10_1⟩ := sqc2 BK247
  go_wp2_with (first | (go_at_call 65; (with_reducible refine (impl_RestOk.calls a0_0 a0_1 true _ A6.out).mono ?_); rintro e w11 ⟨rfl, hb⟩; refine sqM2 BK247 BK248 hb ?_; clear BK247 BK248; intro BK247 BK248; replace HB := sqs HB hb; (try clear hb); obtain ⟨hcz12_0, hcz12_1, hfz12_0, hfz12_1⟩ := sqc2 BK248) | (go_at_call 65; (with_reducible refine (impl_RestOk.calls a1_0 a1_1 t250 _ A8.out).mono ?_); rintro e w13 ⟨rfl, hb⟩; refine sqM2 BK247 BK248 hb ?_; clear BK247 BK248; intro BK247 BK248; replace HB := sqs HB hb; (try clear hb)))
  repeat (go_quiet (first | (go_at_call 65; (with_reducible refine (impl_RestOk.calls a0_0 a0_1 true _ A6.out).mono ?_); rintro e w11 ⟨rfl, hb⟩; refine sqM2 BK247 BK248 hb ?_; clear BK247 BK248; intro BK247 BK248; replace HB := sqs HB hb; (try clear hb); obtain ⟨hcz12_0, hcz12_1, hfz12_0, hfz12_1⟩ := sqc2 BK248) | (go_at_call 65; (with_reducible refine (impl_RestOk.calls a1_0 a1_1 t250 _ A8.out).mono ?_); rintro e w13 ⟨rfl, hb⟩; refine sqM2 BK247 BK248 hb ?_; clear BK247 BK248; intro BK247 BK248; replace HB := sqs HB hb; (try clear hb))); try go_wp2_with (first | (go_at_call 65; (with_reducible refine (impl_RestOk.calls a0_0 a0_1 true _ A6.out).mono ?_); rintro e w11 ⟨rfl, hb⟩; refine sqM2 BK247 BK248 hb ?_; clear BK247 BK248; intro BK247 BK248; replace HB := sqs HB hb; (try clear hb); obtain ⟨hcz12_0, hcz12_1, hfz12_0, hfz12_1⟩ := sqc2 BK248) | (go_at_call 65; (with_reducible refine (impl_RestOk.calls a1_0 a1_1 t250 _ A8.out).mono ?_); rintro e w13 ⟨rfl, hb⟩; refine sqM2 BK247 BK248 hb ?_; clear BK247 BK248; intro BK247 BK248; replace HB := sqs HB hb; (try clear hb))))
  go_meet
  case rel => exact ⟨_, (!t250), (by first | rfl | (simp; done) | (simp [*]; done)), H', ⟨by first | omega | exact Nat.le_refl _⟩, sqk BK247, sqk BK248, sqh HB⟩
 case rest =>
  clear HC3
  obtain ⟨kq, x12_2, rfl, HA, HJ2, BK247, BK248, HB⟩ := hcut
  cases kq with
  | zero => exact absurd HA.out (by simp [impl_RestIn.j0])
  | succ kj2 =>
   have H := HA.out
   clear HA
   simp only [impl_RestIn.j0] at H
   by_cases c17 : x12_2 = true
   ·subst c17
    have H1 : (some false) = some r := by rw [if_pos rfl] at H; exact H
    clear H
    have H := H1
    clear H1
    obtain rfl := Option.some.inj H
    go_wp2
    repeat (go_quiet (fail); try go_wp2)
    go_ret
    exact sqe HB
   replace c17 := Bool.eq_false_iff.mpr c17
   subst c17
   have H1 : (if a1_0 = 0 then (some (a0_0 == a1_0 && (a0_1 == a1_1))) else (if (Int.tmod a0_0 a1_0) = 0 then ((impl_restMod.f a0_1 a1_0).bind fun t251 => (some (t251 == a1_1))) else (some false))) = some r := by rw [if_neg (show ¬ (false = true) by decide)] at H; exact H
   clear H
   have H := H1
   clear H1
   replace H := sqj H
   rcases H with ⟨c18, H⟩ | ⟨c18, H⟩
   ·have c18b0 : (a1_0 == 0) = true := beq_iff_eq.mpr c18
    have c18b1 : (a1_0 != 0) = false := bne_eq_false_iff_eq.mpr c18
    clear c18
    obtain rfl := Option.some.inj H
    obtain ⟨hnb19, hnc19⟩ := sqN1 NB248_247
    obtain ⟨hcz20_0, hcz20_1, hfz20_0, hfz20_1⟩ := sqc2 BK248
    obtain ⟨hcz21_0, hcz21_1, hfz21_0, hfz21_1⟩ := sqc2 BK247
    go_wp2
    repeat (go_quiet (fail); try go_wp2)
    go_ret
    exact sqe HB
   have c18b0 : (a1_0 == 0) = false := beq_eq_false_iff_ne.mpr c18
   have c18b1 : (a1_0 != 0) = true := bne_iff_ne.mpr c18
   replace H := sqi H
   rcases H with ⟨c22, H⟩ | ⟨c22, H⟩
   ·have c22b0 : ((Int.tmod a0_0 a1_0) == 0) = false := beq_eq_false_iff_ne.mpr c22
    have c22b1 : ((Int.tmod a0_0 a1_0) != 0) = true := bne_iff_ne.mpr c22
    obtain rfl := Option.some.inj H
    obtain ⟨hnb27, hnc27⟩ := sqN1 NB248_247
    obtain ⟨hcz28_0, hcz28_1, hfz28_0, hfz28_1⟩ := sqc2 BK248
    obtain ⟨hcz29_0, hcz29_1, hfz29_0, hfz29_1⟩ := sqc2 BK247
    go_wp2
    repeat (go_quiet (fail); try go_wp2)
    go_ret
    exact sqe HB
   have c22b0 : ((Int.tmod a0_0 a1_0) == 0) = true := beq_iff_eq.mpr c22
   have c22b1 : ((Int.tmod a0_0 a1_0) != 0) = false := bne_eq_false_iff_eq.mpr c22
   clear c22
   replace H := sqbi H
   obtain ⟨t251, A23, H⟩ := H
   try dsimp only at H
   obtain rfl := Option.some.inj H
   obtain ⟨hnb24, hnc24⟩ := sqN1 NB248_247
   obtain ⟨hcz25_0, hcz25_1, hfz25_0, hfz25_1⟩ := sqc2 BK248
   obtain ⟨hcz26_0, hcz26_1, hfz26_0, hfz26_1⟩ := sqc2 BK247
   go_wp2_with (first | (go_at_call 98; (with_reducible refine (impl_restMod.calls a0_1 a1_0 t251 _ A23.out).mono ?_); rintro e w' ⟨rfl, ⟨nd, rfl⟩⟩; (try first | exact ⟨rfl, _, World.drewN_drewN _ _ _⟩ | exact ⟨rfl, _, sqda⟩)))
   repeat (go_quiet (first | (go_at_call 98; (with_reducible refine (impl_restMod.calls a0_1 a1_0 t251 _ A23.out).mono ?_); rintro e w' ⟨rfl, ⟨nd, rfl⟩⟩; (try first | exact ⟨rfl, _, World.drewN_drewN _ _ _⟩ | exact ⟨rfl, _, sqda⟩))); try go_wp2_with (first | (go_at_call 98; (with_reducible refine (impl_restMod.calls a0_1 a1_0 t251 _ A23.out).mono ?_); rintro e w' ⟨rfl, ⟨nd, rfl⟩⟩; (try first | exact ⟨rfl, _, World.drewN_drewN _ _ _⟩ | exact ⟨rfl, _, sqda⟩))))
   go_ret
   exact sqe HB

end Go.Proofs.Ytkekcenlleebeaa.PFnValLattice
