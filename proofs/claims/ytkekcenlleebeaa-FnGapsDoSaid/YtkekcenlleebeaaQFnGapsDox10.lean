/- Functions of the program as plain Lean functions, and that calls of them come to what these tell. Conditions: those in each law. -/
import Derived.Test.YtkekcenlleebeaaSq
import Derived.Test.YtkekcenlleebeaaDFnGapsDo
import Derived.Test.YtkekcenlleebeaaQFnGapsDox0
import Derived.Test.YtkekcenlleebeaaQFnGapsDox5
import Derived.Test.YtkekcenlleebeaaQFnGapsDox6
namespace Go.Proofs.Ytkekcenlleebeaa.PFnGapsDo
open Go.RowKit Go.Proofs.Ytkekcenlleebeaa.Sq Go.Proofs.YtkekcenlleebeaaW.PrintWords Go.Proofs.YtkekcenlleebeaaW.PrintLast Go.Proofs.YtkekcenlleebeaaW.PrintMore
attribute [local go_sem] max2_int min2_int max_two min_two max_three min_three max_four min_four   -- for this text's walks alone
set_option linter.unusedVariables false
set_option linter.unusedSimpArgs false

/-! ### impl_Gaps_clone: function 111 -/
set_option maxHeartbeats 8000000 in
set_option maxRecDepth 100000 in
theorem impl_Gaps_clone.calls (a0_0 : Int) (A0_1 : Option Addr) (c0_1 : Nat) (l0_1 : List Int) (r1 : Int) (r2 : List Int) (w : World) (hr0_1 : Kd.C (Kd.int .i64) w A0_1 l0_1.length l0_1) (hc0_1 : l0_1.length ≤ c0_1) (h : impl_Gaps_clone.f a0_0 l0_1 = some (r1, r2)) :
  Calls Try.prog 111 #[.agg #[.int .i64 a0_0, .slice A0_1 l0_1.length c0_1]] w fun e w' => ∃ v1_ : Value, e = .returned (.agg #[.int .i64 r1, v1_]) ∧ Kd.R (Kd.int .i64) 3 w' w.heap.size (fun _ => True) v1_ r2 ∧ Below w.heap.size w w' := by
 have hu41 := Try.underlying41
 have HR0_1 := Aside0.mk hr0_1
 have HC0_1 := Aside0.mk hc0_1
 clear hr0_1 hc0_1
 have HB := Aside0.mk (Below.refl w.heap.size w)
 have H : (if ([] : List Int).length + l0_1.length < 17592186044416 then (some (a0_0, (([] : List Int) ++ l0_1))) else (none)) = some (r1, r2) := h
 clear h
 replace H := sqi H
 rcases H with ⟨c2, H⟩ | ⟨c2, H⟩
 ·exact absurd H (by simp)
 have LMc2 := Aside0.mk c2
 clear c2
 obtain ⟨y269, hy269⟩ : ∃ y_ : List Int, y_ = (([] : List Int) ++ l0_1) := ⟨_, rfl⟩
 replace H : (some (a0_0, y269)) = some (r1, r2) := by first | (rw [hy269]; with_reducible exact H) | (have H2_ := (Option.bind_some _ _).symm.trans H; rw [hy269]; with_reducible exact H2_) | (have H2_ := (Option.bind_some _ _).symm.trans H; with_reducible exact H2_) | with_reducible exact H | (rw [hy269]; exact H) | exact H
 have Ny269 := Aside0.mk hy269
 clear hy269
 simp only [Option.some.injEq, Prod.mk.injEq] at H
 obtain ⟨rfl, rfl⟩ := H
 go_enter Try.func111, Try.ntmps111
 try go_wp2_with (first | ((with_reducible refine gate_dst (N := 1) rfl ?_); refine sqx 1 #[.int .i64 a0_0, .slice A0_1 l0_1.length c0_1] 41 ?_; intro gb267 hg w3 hbox hb; have BK267 := Aside0.mk hbox; have GW267 := sqg HB hg; have GE267 := sqg HB hg; replace HB := sqs HB hb; clear hb hbox hg) | ((with_reducible refine gate_dst (N := 2) rfl ?_); refine sqx 2 #[.int .i64 0, .slice none 0 0] 41 ?_; intro gb268 hg w4 hbox hb; have BK268 := Aside0.mk hbox; have GW268 := sqg HB hg; have GE268 := sqg HB hg; have NB267_268 := sqn BK267 hg; have NB268_267 := sqm BK267 hg; replace BK267 := sqb BK267 hb; replace HB := sqs HB hb; clear hb hbox hg))
 replace BK267 := Aside0.mk (blk_drew BK267.out)
 replace BK268 := Aside0.mk (blk_drew BK268.out)
 replace HB := Aside0.mk (below_drew1 HB.out)
 refine start_ (n := 7) (S := fun w' => w'.cell? ⟨gb267, 0, none⟩ = some (.int .i64 a0_0) ∧ w'.cell? ⟨gb267, 1, none⟩ = some (.slice A0_1 l0_1.length c0_1)) (ds := []) #[false, false, false, false, false, false, false] (by kernel_rfl) rfl rfl sqz (fun hHeld => ?_)
 generalize w4.drew = w5 at BK267 BK268 HB hHeld ⊢
 refine pure_ (i := 0) (N := some 3) (v := ?_) (a' := ?_) #[true, false, false, false, false, false, false] rfl rfl (by kernel_rfl) (fun _ _ _ h => h) (Or.inl ⟨by rfl, ?_⟩) ?_ ?_
 rotate_left
 ·intro w'
  go_simp
  with_reducible rfl
 rotate_left
 ·simp only [Act.put, List.setIfInBounds_toArray, List.set_cons_zero, List.set_cons_succ, i64_w, i32_w]
  rfl
 refine pure_ (i := 2) (N := some 5) (v := ?_) (a' := ?_) #[true, false, true, false, false, false, false] rfl rfl (by kernel_rfl) (fun _ _ _ h => h) (Or.inl ⟨by rfl, ?_⟩) ?_ ?_
 rotate_left
 ·intro w'
  go_simp
  with_reducible rfl
 rotate_left
 ·simp only [Act.put, List.setIfInBounds_toArray, List.set_cons_zero, List.set_cons_succ, i64_w, i32_w]
  rfl
 refine take_ (i := 1) (N := some 4) (v := ?_) (a' := ?_) #[true, true, true, false, false, false, false] rfl rfl (by kernel_rfl) (fun _ _ _ h => h) (Or.inl ⟨by rfl, ?_⟩) hHeld ?_ ?_
 rotate_left
 ·rintro w' ⟨s0, s1⟩
  go_simp
  with_reducible rfl
 rotate_left
 ·simp only [Act.put, List.setIfInBounds_toArray, List.set_cons_zero, List.set_cons_succ, i64_w, i32_w]
  rfl
 refine take_ (i := 3) (N := some 6) (v := ?_) (a' := ?_) #[true, true, true, true, false, false, false] rfl rfl (by kernel_rfl) (fun _ _ _ h => h) (Or.inl ⟨by rfl, ?_⟩) hHeld ?_ ?_
 rotate_left
 ·rintro w' ⟨s0, s1⟩
  go_simp
  with_reducible rfl
 rotate_left
 ·simp only [Act.put, List.setIfInBounds_toArray, List.set_cons_zero, List.set_cons_succ, i64_w, i32_w]
  rfl
 refine one_ (i := 4) (N := some 7) #[true, true, true, true, true, false, false] rfl rfl (by kernel_rfl) (by decide) (fun K hK => ?_)
 refine Kd.R_append_rows_step (Kd.int .i64) (w0 := w) w.heap.size rfl (.const (.slice none 0 0)) (.tmp 6) 39 3 (.int .i64 0) 8 rfl Try.underlying39 info3 rfl (by decide) (by omega) (.slice none 0 0) ([] : List Int) l0_1 _ _ _ (fun _ => True) (fun _ => False) rfl rfl ?aO ?aR (fun _ _ h => h) (fun _ h => h.elim) ?aF ?aB ?aS ?aL ?_
 (case aR => repeat (first | exact (Kd.C_below HR0_1.out HB.out) | (with_reducible refine Kd.C_alloc ?_ _) | (with_reducible refine Kd.C_drewN ?_ _) | (with_reducible refine Kd.C_drew ?_)))
 (case aB => exact (sqB HB))
 (case aF => exact (fun _ _ => trivial))
 (case aO => exact ((Kd.R_nil _ _ _ _ (fun _ => True))))
 (case aS => exact (below_size (sqB HB)))
 (case aL => have := LMc2.out; omega)
 intro v270 w6 ho hb hg hat
 rw [← Ny269.out] at ho
 have n0_ := Aside0.mk (blk_grown (g := gb267) (o := .cells #[.int .i64 a0_0, .slice A0_1 l0_1.length c0_1] 41 (0, 0)) (sqt BK267.out) hg (by simp [Value.ownBlock]))
 have n1_ := Aside0.mk (blk_grown (g := gb268) (o := .cells #[.int .i64 0, .slice none 0 0] 41 (0, 0)) (sqt BK268.out) hg (by simp [Value.ownBlock]))
 have n2_ := Aside0.mk (hb)
 have n3_ := Aside0.mk (ho)
 clear BK267
 clear BK268
 clear HB
 have BK267 := n0_
 have BK268 := n1_
 have HB := n2_
 have HO271 := n3_
 clear n0_ n1_ n2_ n3_
 clear ho hb hg hat
 obtain ⟨Ao7, co7, eo7⟩ := Kd.R_slice HO271.out
 (first | subst eo7 | (injection eo7 with f1_ f2_ f3_; have f4_ := f1_.symm; have f5_ := f3_.symm; clear f1_ f2_ f3_; subst f4_; subst f5_))
 refine hK.out _ _ sqz (fun hHeld => ?_)
 clear hK K
 refine sqnm ?_
 refine pure_ (i := 5) (N := some 8) (v := ?_) (a' := ?_) #[true, true, true, true, true, true, false] rfl rfl (by kernel_rfl) (fun _ _ _ h => h) (Or.inl ⟨by rfl, ?_⟩) ?_ ?_
 rotate_left
 ·intro w'
  go_simp
  with_reducible rfl
 rotate_left
 ·simp only [Act.put, List.setIfInBounds_toArray, List.set_cons_zero, List.set_cons_succ, i64_w, i32_w]
  rfl
 refine one_ (i := 6) (N := none) #[true, true, true, true, true, true, true] rfl rfl (by kernel_rfl) (by decide) (fun K hK => ?_)
 have hs8 : w6.cell? ⟨gb268, 0, none⟩ = some (.int .i64 0) := (blk_cell BK268.out 0).trans rfl
 have hfs8 := blk_frozen BK268.out 0
 have hns8_0 := NB267_268.out
 have hms8_0 := NB268_267.out
 have hs9 : w6.cell? ⟨gb268, 1, none⟩ = some (.slice none 0 0) := (blk_cell BK268.out 1).trans rfl
 have hfs9 := blk_frozen BK268.out 1
 have hns9_0 := NB267_268.out
 have hms9_0 := NB268_267.out
 refine skip_ (w1 := ?_) (by rfl) rfl ?_ ?_
 rotate_left
 ·go_simp
  rfl
 refine hK.out _ _ ⟨((cell_far (p := ⟨gb268, _, none⟩) NB267_268.out _).trans ((sqfa NB267_268 (hHeld.1)))), ((cell_far (p := ⟨gb268, _, none⟩) NB267_268.out _).trans ((sqfa NB267_268 (hHeld.2))))⟩ (fun hHeld => ?_)
 clear hK K
 refine done_ (by kernel_rfl) ?_
 try go_wp2
 refine bodyPost_ret (results_cell_row rfl _ _ gb268 41 #[.int .i64 a0_0, .slice Ao7 y269.length co7] (0, 0) _ rfl (by refine sqt ?_; refine blk_put (cs := #[.int .i64 a0_0, .slice none 0 0]) ?_ 1 _ rfl; refine sqt ?_; refine blk_put (cs := #[.int .i64 0, .slice none 0 0]) ?_ 0 _ rfl; refine sqt ?_; exact BK268.out) Try.underlying41 rfl (by kernel_rfl)) rfl ?_
 exact ⟨_, by first | rfl | (simp [errW_none, errW_some] <;> rfl) | (simp [*, errW_none, errW_some] <;> rfl), by (with_reducible repeat (first | apply Kd.R_alloc | apply Kd.R_drewN | apply Kd.R_drew)); exact Kd.R_mono (Kd.R_far (p := ⟨gb268, 1, none⟩) (Kd.R_far (p := ⟨gb268, 0, none⟩) (Kd.R_types HO271.out BK268.out (by decide)) (fun _ hk => hk.2) (.int .i64 a0_0)) (fun _ hk => hk.2) (.slice Ao7 y269.length co7)) (fun _ hk => trivial), by repeat (first | (with_reducible first | exact HB.out | apply below_alloc | apply pw_below_drewN | apply below_drew1 | refine below_set ?_ GE267.out | refine below_set ?_ GE268.out) | exact HB.out)⟩

/-! ### impl_GapsForget: function 49 -/
def impl_GapsForget.T8 : Bool × List (List Nat × List Nat) := (true, [([], []), ([0], [0]), ([], []), ([], []), ([], []), ([2, 3, 4], [2, 3, 4]), ([1, 5, 0, 1, 2, 3, 4, 5], [1, 5]), ([6, 5, 0, 1, 2, 3, 4, 5], [6])])
def impl_GapsForget.B8 : List Nat := [0, 1, 0, 0, 0, 28, 63, 127]
theorem impl_GapsForget.tab8 : rtab .any (opsOf Try.f49 8) = impl_GapsForget.T8 := by kernel_rfl
theorem impl_GapsForget.bits8 : waitsOk impl_GapsForget.T8.2 impl_GapsForget.B8 = true := by kernel_rfl
def impl_GapsForget.T9 : Bool × List (List Nat × List Nat) := (true, [([], []), ([0], [0]), ([], []), ([], []), ([], []), ([2, 3, 4], [2, 3, 4]), ([1, 5, 0, 1, 2, 3, 4, 5], [1, 5]), ([6, 5, 0, 1, 2, 3, 4, 5], [6])])
def impl_GapsForget.B9 : List Nat := [0, 1, 0, 0, 0, 28, 63, 127]
theorem impl_GapsForget.tab9 : rtab .any (opsOf Try.f49 9) = impl_GapsForget.T9 := by kernel_rfl
theorem impl_GapsForget.bits9 : waitsOk impl_GapsForget.T9.2 impl_GapsForget.B9 = true := by kernel_rfl
set_option maxHeartbeats 8000000 in
set_option maxRecDepth 100000 in
theorem impl_GapsForget.calls (k : Nat) (a0_0 : Int) (A0_1 : Option Addr) (c0_1 : Nat) (l0_1 : List Int) (a1 : Int) (r1 : Int) (r2 : List Int) (w : World) (hr0_1 : Kd.C (Kd.int .i64) w A0_1 l0_1.length l0_1) (hc0_1 : l0_1.length ≤ c0_1) (h : impl_GapsForget.f k a0_0 l0_1 a1 = some (r1, r2)) :
  Calls Try.prog 49 #[.agg #[.int .i64 a0_0, .slice A0_1 l0_1.length c0_1], .int .i64 a1] w fun e w' => ∃ v1_ : Value, e = .returned (.agg #[.int .i64 r1, v1_]) ∧ Kd.R (Kd.int .i64) 3 w' w.heap.size (fun _ => True) v1_ r2 ∧ Below w.heap.size w w' := by
 have hu41 := Try.underlying41
 have HR0_1 := Aside0.mk hr0_1
 have HC0_1 := Aside0.mk hc0_1
 clear hr0_1 hc0_1
 have HB := Aside0.mk (Below.refl w.heap.size w)
 have H : ((impl_GapsOk.f k a0_0 l0_1).bind fun t274 => (if t274 = true then (if a1 < 1 then (impl_GapsForget.j0 k a1 true a0_0 l0_1) else (impl_GapsForget.j0 k a1 (decide (a1 > a0_0)) a0_0 l0_1)) else (impl_GapsForget.j0 k a1 true a0_0 l0_1))) = some (r1, r2) := h
 clear h
 have HC3 := Aside0.mk H
 clear H
 go_enter Try.func49, Try.ntmps49
 go_upto_region 1 with (first | ((with_reducible refine gate_dst (N := 2) rfl ?_); refine sqx 2 #[.int .i64 a0_0, .slice A0_1 l0_1.length c0_1] 41 ?_; intro gb272 hg w4 hbox hb; have BK272 := Aside0.mk hbox; have GW272 := sqg HB hg; have GE272 := sqg HB hg; replace HB := sqs HB hb; clear hb hbox hg) | ((with_reducible refine gate_dst (N := 4) rfl ?_); refine sqx 4 #[.int .i64 0, .slice none 0 0] 41 ?_; intro gb273 hg w5 hbox hb; have BK273 := Aside0.mk hbox; have GW273 := sqg HB hg; have GE273 := sqg HB hg; have NB272_273 := sqn BK272 hg; have NB273_272 := sqm BK272 hg; replace BK272 := sqb BK272 hb; replace HB := sqs HB hb; clear hb hbox hg))
 (try simp only [Act.put, List.setIfInBounds_toArray, List.set_cons_zero, List.set_cons_succ])
 go_cut [19] (fun v19 wc => ∃ (kq : Nat) (x19_2 : Bool), v19 = .bool x19_2 ∧ Aside0 (impl_GapsForget.j0 kq a1 x19_2 a0_0 l0_1 = some (r1, r2)) ∧ Aside0 (kq ≤ k) ∧ Aside0 (wc.heap[gb272]? = some (.cells #[.int .i64 a0_0, (.slice A0_1 l0_1.length c0_1)] 41 (0, 0))) ∧ Aside0 (wc.heap[gb273]? = some (.cells #[.int .i64 0, (.slice none 0 0)] 41 (0, 0))) ∧ Aside0 (Below w.heap.size w wc))
 case first =>
  have H := HC3.out
  clear HC3
  replace H := sqbi H
  obtain ⟨t274, A6, H⟩ := H
  replace H : (if t274 = true then (if a1 < 1 then (impl_GapsForget.j0 k a1 true a0_0 l0_1) else (impl_GapsForget.j0 k a1 (decide (a1 > a0_0)) a0_0 l0_1)) else (impl_GapsForget.j0 k a1 true a0_0 l0_1)) = some (r1, r2) := H
  rcases sqI (t274 = true) with c7 | c7
  ·replace c7 := Bool.eq_false_iff.mpr c7
   subst c7
   have H1 : (impl_GapsForget.j0 k a1 true a0_0 l0_1) = some (r1, r2) := by rw [if_neg (show ¬ (false = true) by decide)] at H; exact H
   clear H
   have H := H1
   clear H1
   have H' := Aside0.mk H
   clear H
   have hnb16 := NB272_273.out
   have hnc16 := NB273_272.out
   obtain ⟨hcz17_0, hcz17_1, hfz17_0, hfz17_1⟩ := sqc2 BK272
   go_wp2_with (first | ((with_reducible refine gate_callee (f := 31) rfl ?_); refine sqL (some 8) Try.func31 #[.agg #[.int .i64 a0_0, .slice A0_1 l0_1.length c0_1]] ?_; (with_reducible refine (impl_GapsOk.calls k a0_0 _ _ l0_1 false _ ?side1 ?side2 A6.out).mono ?_); (case side1 => exact sqC (Kd.C_below HR0_1.out HB.out)); (case side2 => exact HC0_1.out); rintro e w18 ⟨rfl, hb⟩; refine ⟨_, rfl, ?_⟩; refine sqM2 BK272 BK273 hb ?_; clear BK272 BK273; intro BK272 BK273; replace HB := sqs HB hb; (try clear hb)))
   go_meet
   case rel => exact ⟨_, (true), (by first | rfl | (simp; done) | (simp [*]; done)), H', ⟨by first | omega | exact Nat.le_refl _⟩, sqk BK272, sqk BK273, sqh HB⟩
  subst c7
  have H1 : (if a1 < 1 then (impl_GapsForget.j0 k a1 true a0_0 l0_1) else (impl_GapsForget.j0 k a1 (decide (a1 > a0_0)) a0_0 l0_1)) = some (r1, r2) := by rw [if_pos rfl] at H; exact H
  clear H
  have H := H1
  clear H1
  replace H := sqj H
  rcases H with ⟨c8, H⟩ | ⟨c8, H⟩
  ·have c8b0 := decide_eq_true c8
   clear c8
   (first | rw [c8b0] | (simp only [i64_w, i32_w]; rw [c8b0]) | skip)
   have H' := Aside0.mk H
   clear H
   have hnb9 := NB272_273.out
   have hnc9 := NB273_272.out
   obtain ⟨hcz10_0, hcz10_1, hfz10_0, hfz10_1⟩ := sqc2 BK272
   go_wp2_with (first | ((with_reducible refine gate_callee (f := 31) rfl ?_); refine sqL (some 8) Try.func31 #[.agg #[.int .i64 a0_0, .slice A0_1 l0_1.length c0_1]] ?_; (with_reducible refine (impl_GapsOk.calls k a0_0 _ _ l0_1 true _ ?side1 ?side2 A6.out).mono ?_); (case side1 => exact sqC (Kd.C_below HR0_1.out HB.out)); (case side2 => exact HC0_1.out); rintro e w11 ⟨rfl, hb⟩; refine ⟨_, rfl, ?_⟩; refine sqM2 BK272 BK273 hb ?_; clear BK272 BK273; intro BK272 BK273; replace HB := sqs HB hb; (try clear hb)))
   go_meet
   case rel => exact ⟨_, (true), (by first | rfl | (simp; done) | (simp [*]; done)), H', ⟨by first | omega | exact Nat.le_refl _⟩, sqk BK272, sqk BK273, sqh HB⟩
  have c8b0 := decide_eq_false c8
  clear c8
  (first | rw [c8b0] | (simp only [i64_w, i32_w]; rw [c8b0]) | skip)
  have H' := Aside0.mk H
  clear H
  have hnb12 := NB272_273.out
  have hnc12 := NB273_272.out
  obtain ⟨hcz13_0, hcz13_1, hfz13_0, hfz13_1⟩ := sqc2 BK272
  go_wp2_with (first | ((with_reducible refine gate_callee (f := 31) rfl ?_); refine sqL (some 8) Try.func31 #[.agg #[.int .i64 a0_0, .slice A0_1 l0_1.length c0_1]] ?_; (with_reducible refine (impl_GapsOk.calls k a0_0 _ _ l0_1 true _ ?side1 ?side2 A6.out).mono ?_); (case side1 => exact sqC (Kd.C_below HR0_1.out HB.out)); (case side2 => exact HC0_1.out); rintro e w14 ⟨rfl, hb⟩; refine ⟨_, rfl, ?_⟩; refine sqM2 BK272 BK273 hb ?_; clear BK272 BK273; intro BK272 BK273; replace HB := sqs HB hb; (try clear hb); obtain ⟨hcz15_0, hcz15_1, hfz15_0, hfz15_1⟩ := sqc2 BK272))
  go_meet
  case rel => exact ⟨_, (decide (a1 > a0_0)), (by first | rfl | (simp; done) | (simp [*]; done)), H', ⟨by first | omega | exact Nat.le_refl _⟩, sqk BK272, sqk BK273, sqh HB⟩
 case rest =>
  clear HC3
  obtain ⟨kq, x19_2, rfl, HA, HJ2, BK272, BK273, HB⟩ := hcut
  cases kq with
  | zero => exact absurd HA.out (by simp [impl_GapsForget.j0])
  | succ kj2 =>
   have H := HA.out
   clear HA
   simp only [impl_GapsForget.j0] at H
   by_cases c19 : x19_2 = true
   ·subst c19
    have H1 : (some (0, ([] : List Int))) = some (r1, r2) := by rw [if_pos rfl] at H; exact H
    clear H
    have H := H1
    clear H1
    simp only [Option.some.injEq, Prod.mk.injEq] at H
    obtain ⟨rfl, rfl⟩ := H
    have hnb20 := NB273_272.out
    have hnc20 := NB272_273.out
    obtain ⟨hcz21_0, hcz21_1, hfz21_0, hfz21_1⟩ := sqc2 BK273
    go_wp2
    refine bodyPost_ret (results_cell_row rfl _ _ gb273 41 #[.int .i64 0, .slice none 0 0] (0, 0) _ rfl (by refine sqt ?_; refine blk_put (cs := #[.int .i64 0, .slice none 0 0]) ?_ 1 _ rfl; refine sqt ?_; refine blk_put (cs := #[.int .i64 0, .slice none 0 0]) ?_ 0 _ rfl; refine sqt ?_; exact BK273.out) Try.underlying41 rfl (by kernel_rfl)) rfl ?_
    exact ⟨_, by first | rfl | (simp [errW_none, errW_some] <;> rfl) | (simp [*, errW_none, errW_some] <;> rfl), by first | exact Kd.R_nil _ _ _ _ _ | exact Kd.N_nil _ _ _ _ _ | exact Kd.V_nil _ _ _ _ _ | exact Kd.Q_nil _ _ _ _ _ | exact Kd.S_nil _ _ _ _ _, by repeat (first | (with_reducible first | exact HB.out | apply below_alloc | apply pw_below_drewN | apply below_drew1 | refine below_set ?_ GE272.out | refine below_set ?_ GE273.out) | exact HB.out)⟩
   replace c19 := Bool.eq_false_iff.mpr c19
   subst c19
   have H1 : ((impl_Gaps_clone.f a0_0 l0_1).bind fun bt275 => (impl_GapsForget.l0 kj2 a1 (wrap64 (a0_0 + 1)) 0 a0_0 l0_1 bt275.1 bt275.2)) = some (r1, r2) := by rw [if_neg (show ¬ (false = true) by decide)] at H; exact H
   clear H
   have H := H1
   clear H1
   replace H := sqbi H
   obtain ⟨⟨t275, t276⟩, A22, H⟩ := H
   replace H : (impl_GapsForget.l0 kj2 a1 (wrap64 (a0_0 + 1)) 0 a0_0 l0_1 t275 t276) = some (r1, r2) := H
   have H' := Aside0.mk H
   clear H
   have hnb23 := NB272_273.out
   have hnc23 := NB273_272.out
   obtain ⟨hcz24_0, hcz24_1, hfz24_0, hfz24_1⟩ := sqc2 BK272
   go_wp2_with (first | ((with_reducible refine gate_callee (f := 111) rfl ?_); refine sqL (some 22) Try.func111 #[.agg #[.int .i64 a0_0, .slice A0_1 l0_1.length c0_1]] ?_; (with_reducible refine (impl_Gaps_clone.calls a0_0 _ _ l0_1 t275 t276 _ ?side1 ?side2 A22.out).mono ?_); (case side1 => exact sqC (Kd.C_below HR0_1.out HB.out)); (case side2 => exact HC0_1.out); rintro e w25 ⟨v277, rfl, ho0, hb⟩; refine ⟨_, rfl, ?_⟩; have HO278 := Aside0.mk (Kd.R_lower ho0 (below_size (sqB HB))); refine sqM2 BK272 BK273 hb ?_; clear BK272 BK273; intro BK272 BK273; replace HB := sqs HB hb; (try clear hb); (try clear hb2); (try clear hk); (try clear hi); (try clear ho0)) | ((with_reducible refine gate_dst (N := 5) rfl ?_); refine sqx 5 #[.int .i64 0, .slice none 0 0] 41 ?_; intro gb279 hg w26 hbox hb; have n0_ := Aside0.mk (Kd.R_below (sqy HO278.out) hb); have n1_ := sqb BK272 hb; have n2_ := sqb BK273 hb; have n3_ := sqs HB hb; have n4_ := Aside0.mk (hbox); have n5_ := sqg HB hg; have n6_ := sqg HB hg; have n7_ := sqn BK272 hg; have n8_ := sqm BK272 hg; have n9_ := sqn BK273 hg; have n10_ := sqm BK273 hg; clear HO278; clear BK272; clear BK273; clear HB; have HO278 := n0_; have BK272 := n1_; have BK273 := n2_; have HB := n3_; have BK279 := n4_; have GW279 := n5_; have GE279 := n6_; have NB272_279 := n7_; have NB279_272 := n8_; have NB273_279 := n9_; have NB279_273 := n10_; clear n0_ n1_ n2_ n3_ n4_ n5_ n6_ n7_ n8_ n9_ n10_; clear hb hbox hg; have hnb27 := NB279_272.out; have hnc27 := NB272_279.out; have hnb28 := NB279_273.out; have hnc28 := NB273_279.out; obtain ⟨hcz29_0, hcz29_1, hfz29_0, hfz29_1⟩ := sqc2 BK279; obtain ⟨Ao30, co30, eo30⟩ := Kd.R_slice HO278.out; subst eo30; obtain ⟨hcz31_0, hcz31_1, hfz31_0, hfz31_1⟩ := sqc2 BK272))
   go_loopg [26] kj2 (fun kq v26 w' => ∃ (x26_2 : Int) (x280001_2 : List Int) (u280001 : Value), v26 = .int .i64 x26_2 ∧ Aside0 (impl_GapsForget.l0 kq a1 (wrap64 (a0_0 + 1)) x26_2 a0_0 l0_1 t275 x280001_2 = some (r1, r2)) ∧ Aside0 (kq ≤ kj2) ∧ Aside0 (Kd.R (Kd.int .i64) 3 w' w.heap.size (fun _ => True) u280001 x280001_2) ∧ Aside0 (w'.heap[gb272]? = some (.cells #[.int .i64 a0_0, (.slice A0_1 l0_1.length c0_1)] 41 (0, 0))) ∧ Aside0 (w'.heap[gb273]? = some (.cells #[.int .i64 0, (.slice none 0 0)] 41 (0, 0))) ∧ Aside0 (w'.heap[gb279]? = some (.cells #[.int .i64 t275, u280001] 41 (0, 0))) ∧ Aside0 (Below w.heap.size w w'))
   case atStart => exact ⟨(0), (t276), (.slice Ao30 t276.length co30), (by first | rfl | (simp; done) | (simp [*]; done)), H', ⟨Nat.le_refl _⟩, ⟨by (with_reducible repeat (first | apply Kd.R_alloc | apply Kd.R_drewN | apply Kd.R_drew)); exact Kd.R_mono (Kd.R_far (p := ⟨gb279, 1, none⟩) (Kd.R_far (p := ⟨gb279, 0, none⟩) (Kd.R_types HO278.out BK279.out (by decide)) (fun _ hk => hk.2) (.int .i64 t275)) (fun _ hk => hk.2) (.slice Ao30 t276.length co30)) (fun _ hk => trivial)⟩, ⟨by refine sqt ?_; refine blk_far ?_ NB272_279.out _; refine sqt ?_; refine blk_far ?_ NB272_279.out _; refine sqt ?_; exact BK272.out⟩, ⟨by refine sqt ?_; refine blk_far ?_ NB273_279.out _; refine sqt ?_; refine blk_far ?_ NB273_279.out _; refine sqt ?_; exact BK273.out⟩, ⟨by refine sqt ?_; refine blk_put (cs := #[.int .i64 t275, .slice none 0 0]) ?_ 1 _ rfl; refine sqt ?_; refine blk_put (cs := #[.int .i64 0, .slice none 0 0]) ?_ 0 _ rfl; refine sqt ?_; exact BK279.out⟩, sqh HB⟩
   case round =>
    clear H'
    obtain ⟨x26_2, x280001_2, u280001, rfl, HA, HK2, HO_280001, BK272, BK273, BK279, HB⟩ := hrel
    cases gk with
    | zero => exact absurd HA.out (by simp [impl_GapsForget.l0])
    | succ k2 =>
     have H := HA.out
     clear HA
     simp only [impl_GapsForget.l0] at H
     replace H := sqi H
     rcases H with ⟨c32, H⟩ | ⟨c32, H⟩
     ·have c32b0 := decide_eq_false c32
      clear c32
      simp only [Option.some.injEq, Prod.mk.injEq] at H
      obtain ⟨rfl, rfl⟩ := H
      have hnb49 := NB279_272.out
      have hnc49 := NB272_279.out
      have hnb50 := NB279_273.out
      have hnc50 := NB273_279.out
      obtain ⟨hcz51_0, hcz51_1, hfz51_0, hfz51_1⟩ := sqc2 BK279
      have hnb52 := NB273_272.out
      have hnc52 := NB272_273.out
      obtain ⟨hcz53_0, hcz53_1, hfz53_0, hfz53_1⟩ := sqc2 BK273
      obtain ⟨Ao54, co54, eo54⟩ := Kd.R_slice HO_280001.out
      subst eo54
      go_wp2
      refine bodyPost_ret (results_cell_row rfl _ _ gb273 41 #[.int .i64 t275, .slice Ao54 x280001_2.length co54] (0, 0) _ rfl (by refine sqt ?_; refine blk_put (cs := #[.int .i64 t275, .slice none 0 0]) ?_ 1 _ rfl; refine sqt ?_; refine blk_put (cs := #[.int .i64 0, .slice none 0 0]) ?_ 0 _ rfl; refine sqt ?_; exact BK273.out) Try.underlying41 rfl (by kernel_rfl)) rfl ?_
      exact ⟨_, by first | rfl | (simp [errW_none, errW_some] <;> rfl) | (simp [*, errW_none, errW_some] <;> rfl), by (with_reducible repeat (first | apply Kd.R_alloc | apply Kd.R_drewN | apply Kd.R_drew)); exact Kd.R_mono (Kd.R_far (p := ⟨gb273, 1, none⟩) (Kd.R_far (p := ⟨gb273, 0, none⟩) (Kd.R_types HO_280001.out BK273.out (by decide)) (fun _ hk => hk.2) (.int .i64 t275)) (fun _ hk => hk.2) (.slice Ao54 x280001_2.length co54)) (fun _ hk => trivial), by repeat (first | (with_reducible first | exact HB.out | apply below_alloc | apply pw_below_drewN | apply below_drew1 | refine below_set ?_ GE272.out | refine below_set ?_ GE273.out | refine below_set ?_ GE279.out) | exact HB.out)⟩
     have c32b0 := decide_eq_true c32
     clear c32
     replace H := sqj H
     rcases H with ⟨c33, H⟩ | ⟨c33, H⟩
     ·have c33b0 : (x26_2 == a1) = true := beq_iff_eq.mpr c33
      have c33b1 : (x26_2 != a1) = false := bne_eq_false_iff_eq.mpr c33
      clear c33
      have H' := Aside0.mk H
      clear H
      go_wp2
      go_roundg k2
      case measure => have := HJ2.out; have := HK2.out; omega
      case rel => exact ⟨(wrap64 (x26_2 + 1)), (x280001_2), (u280001), (by first | rfl | (simp; done) | (simp [*]; done)), H', ⟨by have := HJ2.out; have := HK2.out; omega⟩, ⟨sqy HO_280001.out⟩, sqk BK272, sqk BK273, sqk BK279, sqh HB⟩
     have c33b0 : (x26_2 == a1) = false := beq_eq_false_iff_ne.mpr c33
     have c33b1 : (x26_2 != a1) = true := bne_iff_ne.mpr c33
     replace H := sqbi H
     obtain ⟨t280, A34, H⟩ := H
     replace H : (if 0 ≤ t280 then (if t280 < (x280001_2.length : Int) then ((impl_Gaps_at.f a0_0 l0_1 x26_2 a1).bind fun t282 => (if 0 ≤ t282 then (if t282 < (x280001_2.length : Int) then (impl_GapsForget.l0 k2 a1 (wrap64 (a0_0 + 1)) (wrap64 (x26_2 + 1)) a0_0 l0_1 t275 ((x280001_2.set (t280 : Int).toNat 1099511627776).set (t282 : Int).toNat 1099511627776)) else (none)) else (none))) else (none)) else (none)) = some (r1, r2) := H
     replace H := sqi H
     rcases H with ⟨c35, H⟩ | ⟨c35, H⟩
     ·exact absurd H (by simp)
     have c35b0 := decide_eq_true c35
     clear c35
     replace H := sqi H
     rcases H with ⟨c36, H⟩ | ⟨c36, H⟩
     ·exact absurd H (by simp)
     have c36b0 := decide_eq_true c36
     clear c36
     obtain ⟨y281, hy281⟩ : ∃ y_ : List Int, y_ = (x280001_2.set (t280 : Int).toNat 1099511627776) := ⟨_, rfl⟩
     replace H : ((impl_Gaps_at.f a0_0 l0_1 x26_2 a1).bind fun t282 => (if 0 ≤ t282 then (if t282 < (x280001_2.length : Int) then (impl_GapsForget.l0 k2 a1 (wrap64 (a0_0 + 1)) (wrap64 (x26_2 + 1)) a0_0 l0_1 t275 (y281.set (t282 : Int).toNat 1099511627776)) else (none)) else (none))) = some (r1, r2) := by first | (rw [hy281]; with_reducible exact H) | (have H2_ := (Option.bind_some _ _).symm.trans H; rw [hy281]; with_reducible exact H2_) | (have H2_ := (Option.bind_some _ _).symm.trans H; with_reducible exact H2_) | with_reducible exact H | (rw [hy281]; exact H) | exact H
     have Ny281 := Aside0.mk hy281
     clear hy281
     replace H := sqbi H
     obtain ⟨t282, A38, H⟩ := H
     replace H : (if 0 ≤ t282 then (if t282 < (x280001_2.length : Int) then (impl_GapsForget.l0 k2 a1 (wrap64 (a0_0 + 1)) (wrap64 (x26_2 + 1)) a0_0 l0_1 t275 (y281.set (t282 : Int).toNat 1099511627776)) else (none)) else (none)) = some (r1, r2) := H
     replace H := sqi H
     rcases H with ⟨c39, H⟩ | ⟨c39, H⟩
     ·exact absurd H (by simp)
     have c39b0 := decide_eq_true c39
     clear c39
     replace H := sqi H
     rcases H with ⟨c40, H⟩ | ⟨c40, H⟩
     ·exact absurd H (by simp)
     have c40b0 := decide_eq_true c40
     clear c40
     obtain ⟨y283, hy283⟩ : ∃ y_ : List Int, y_ = (y281.set (t282 : Int).toNat 1099511627776) := ⟨_, rfl⟩
     replace H : (impl_GapsForget.l0 k2 a1 (wrap64 (a0_0 + 1)) (wrap64 (x26_2 + 1)) a0_0 l0_1 t275 y283) = some (r1, r2) := by first | (rw [hy283]; with_reducible exact H) | (have H2_ := (Option.bind_some _ _).symm.trans H; rw [hy283]; with_reducible exact H2_) | (have H2_ := (Option.bind_some _ _).symm.trans H; with_reducible exact H2_) | with_reducible exact H | (rw [hy283]; exact H) | exact H
     have Ny283 := Aside0.mk hy283
     clear hy283
     have H' := Aside0.mk H
     clear H
     try go_wp2
     replace HO_280001 := Aside0.mk (Kd.R_drew HO_280001.out)
     replace BK272 := Aside0.mk (blk_drew BK272.out)
     replace BK273 := Aside0.mk (blk_drew BK273.out)
     replace BK279 := Aside0.mk (blk_drew BK279.out)
     replace HB := Aside0.mk (below_drew1 HB.out)
     refine start_ (n := 8) (S := fun w' => w'.cell? ⟨gb279, 0, none⟩ = some (.int .i64 t275) ∧ w'.cell? ⟨gb279, 1, none⟩ = some (u280001) ∧ w'.cell? ⟨gb272, 0, none⟩ = some (.int .i64 a0_0) ∧ w'.cell? ⟨gb272, 1, none⟩ = some (.slice A0_1 l0_1.length c0_1)) (ds := [7]) #[false, false, false, false, false, false, false, false] (by kernel_rfl) rfl rfl sqz (fun hHeld => ?_); refine with_tabW impl_GapsForget.tab8 impl_GapsForget.bits8 (fun HT_ HW_ => ?_)
     generalize wr.drew = w42 at HO_280001 BK272 BK273 BK279 HB hHeld ⊢
     refine sqp HT_ 0 32 ?_
     refine sqp HT_ 3 35 ?_
     refine sqp HT_ 4 36 ?_
     refine sqw HT_ HW_ 1 33 hHeld ?_
     refine sqw HT_ HW_ 2 34 hHeld ?_
     refine sqo HT_ 5 37 (fun K hK => ?_)
     refine sqG Try.func118 #[.agg #[.int .i64 a0_0, .slice A0_1 l0_1.length c0_1], .int .i64 a1, .int .i64 x26_2] ?_
     with_reducible refine (impl_Gaps_at.calls a0_0 _ _ l0_1 a1 x26_2 t280 _ ?side1 ?side2 A34.out).mono ?_
     (case side1 => exact sqC (Kd.C_below HR0_1.out HB.out))
     (case side2 => exact HC0_1.out)
     rintro e w43 ⟨rfl, hb⟩
     refine ⟨_, rfl, ?_⟩
     have n0_ := Aside0.mk (Kd.R_below (sqy HO_280001.out) hb)
     have n1_ := sqb BK272 hb
     have n2_ := sqb BK273 hb
     have n3_ := sqb BK279 hb
     have n4_ := sqs HB hb
     clear HO_280001
     clear BK272
     clear BK273
     clear BK279
     clear HB
     have HO_280001 := n0_
     have BK272 := n1_
     have BK273 := n2_
     have BK279 := n3_
     have HB := n4_
     clear n0_ n1_ n2_ n3_ n4_
     (try clear hb)
     have p37 : 0 ≤ (t280 : Int) := sqd
     have q37 : (t280 : Int) < ((x280001_2.length : Int) : Int) := sqd
     obtain ⟨go37, co37, eo37, gb37, gl37, cl37, HG37⟩ := Kd.R_form HO_280001.out (by omega)
     (first | cases eo37 | (injection eo37 with ea_ en_ ec_; (first | subst ea_ | (injection ea_ with ea_; subst ea_)); subst ec_; clear en_))
     have GB37 := Aside0.mk gb37
     have GG37 := Aside0.mk HG37
     clear gb37 gl37 HG37
     obtain ⟨hx37_0, hf37_0⟩ := Kd.R_celln 0 HO_280001.out (t280 : Int) p37 q37
     replace p37 := eq_true p37
     replace q37 := eq_true q37
     have HP44 := Kd.R_putn HO_280001.out (t280 : Int) 1099511627776
     rw [← Ny281.out] at HP44
     have HQ44 := Aside0.mk HP44
     clear HP44
     refine hK.out _ _ sqz (fun hHeld => ?_)
     clear hK K
     refine sqnm ?_
     refine sqp HT_ 6 38 ?_
     refine last_ (i := 7) (N := none) #[true, true, true, true, true, true, true, true] rfl rfl (one_of HT_.out (by kernel_rfl)) (by decide) (fun K hK => ?_)
     refine skip_ (w1 := ?_) (by rfl) rfl ?_ ?_
     rotate_left
     ·go_simp
      rfl
     refine hK.out _ _ ?_
     clear hK K
     refine done_ (done_of HT_.out (by kernel_rfl)) ?_
     try go_wp2
     have n0_ : Aside0 (Kd.R (Kd.int .i64) 3 (w43.setCell ⟨go37, (t280 : Int).toNat, none⟩ (.int .i64 1099511627776)) w.heap.size (fun _ => True) (.slice (some ⟨go37, 0, none⟩) x280001_2.length co37) y281) := ⟨sqy HQ44.out⟩
     have n1_ : Aside0 ((w43.setCell ⟨go37, (t280 : Int).toNat, none⟩ (.int .i64 1099511627776)).heap[gb272]? = some (.cells #[.int .i64 a0_0, .slice A0_1 l0_1.length c0_1] 41 (0, 0))) := ⟨by refine sqt ?_; refine blk_far ?_ (by have h_ := Kd.R_ne HO_280001.out BK272.out (by decide); intro e_; exact h_ (by rw [e_]; rfl)) _; refine sqt ?_; exact BK272.out⟩
     have n2_ : Aside0 ((w43.setCell ⟨go37, (t280 : Int).toNat, none⟩ (.int .i64 1099511627776)).heap[gb273]? = some (.cells #[.int .i64 0, .slice none 0 0] 41 (0, 0))) := ⟨by refine sqt ?_; refine blk_far ?_ (by have h_ := Kd.R_ne HO_280001.out BK273.out (by decide); intro e_; exact h_ (by rw [e_]; rfl)) _; refine sqt ?_; exact BK273.out⟩
     have n3_ : Aside0 ((w43.setCell ⟨go37, (t280 : Int).toNat, none⟩ (.int .i64 1099511627776)).heap[gb279]? = some (.cells #[.int .i64 t275, .slice (some ⟨go37, 0, none⟩) x280001_2.length co37] 41 (0, 0))) := ⟨by refine sqt ?_; refine blk_far ?_ (by have h_ := Kd.R_ne HO_280001.out BK279.out (by decide); intro e_; exact h_ (by rw [e_]; rfl)) _; refine sqt ?_; exact BK279.out⟩
     have n4_ : Aside0 (Below w.heap.size w (w43.setCell ⟨go37, (t280 : Int).toNat, none⟩ (.int .i64 1099511627776))) := ⟨by repeat (first | (with_reducible first | exact HB.out | apply below_alloc | apply pw_below_drewN | apply below_drew1 | refine below_set ?_ GB37.out | refine below_set ?_ GE272.out | refine below_set ?_ GE273.out | refine below_set ?_ GE279.out) | exact HB.out)⟩
     (try clear HO_280001)
     (try clear BK272)
     (try clear BK273)
     (try clear BK279)
     (try clear HB)
     generalize (w43.setCell ⟨go37, (t280 : Int).toNat, none⟩ (.int .i64 1099511627776)) = w45 at n0_ n1_ n2_ n3_ n4_ ⊢
     have HO_280001 := n0_
     have BK272 := n1_
     have BK273 := n2_
     have BK279 := n3_
     have HB := n4_
     clear n0_ n1_ n2_ n3_ n4_
     replace HO_280001 := Aside0.mk (Kd.R_drew HO_280001.out)
     replace BK272 := Aside0.mk (blk_drew BK272.out)
     replace BK273 := Aside0.mk (blk_drew BK273.out)
     replace BK279 := Aside0.mk (blk_drew BK279.out)
     replace HB := Aside0.mk (below_drew1 HB.out)
     refine start_ (n := 8) (S := fun w' => w'.cell? ⟨gb279, 0, none⟩ = some (.int .i64 t275) ∧ w'.cell? ⟨gb279, 1, none⟩ = some (.slice (some ⟨go37, 0, none⟩) x280001_2.length co37) ∧ w'.cell? ⟨gb272, 0, none⟩ = some (.int .i64 a0_0) ∧ w'.cell? ⟨gb272, 1, none⟩ = some (.slice A0_1 l0_1.length c0_1)) (ds := [7]) #[false, false, false, false, false, false, false, false] (by kernel_rfl) rfl rfl sqz (fun hHeld => ?_); refine with_tabW impl_GapsForget.tab9 impl_GapsForget.bits9 (fun HT_ HW_ => ?_)
     generalize w45.drew = w46 at HO_280001 BK272 BK273 BK279 HB HQ44 hHeld ⊢
     refine sqp HT_ 0 39 ?_
     refine sqp HT_ 3 42 ?_
     refine sqp HT_ 4 43 ?_
     refine sqw HT_ HW_ 1 40 hHeld ?_
     refine sqw HT_ HW_ 2 41 hHeld ?_
     refine sqo HT_ 5 44 (fun K hK => ?_)
     refine sqG Try.func118 #[.agg #[.int .i64 a0_0, .slice A0_1 l0_1.length c0_1], .int .i64 x26_2, .int .i64 a1] ?_
     with_reducible refine (impl_Gaps_at.calls a0_0 _ _ l0_1 x26_2 a1 t282 _ ?side1 ?side2 A38.out).mono ?_
     (case side1 => exact sqC (Kd.C_below HR0_1.out HB.out))
     (case side2 => exact HC0_1.out)
     rintro e w47 ⟨rfl, hb⟩
     refine ⟨_, rfl, ?_⟩
     have n0_ := Aside0.mk (Kd.R_below (sqy HO_280001.out) hb)
     have n1_ := sqb BK272 hb
     have n2_ := sqb BK273 hb
     have n3_ := sqb BK279 hb
     have n4_ := sqs HB hb
     clear HO_280001
     clear BK272
     clear BK273
     clear BK279
     clear HB
     have HO_280001 := n0_
     have BK272 := n1_
     have BK273 := n2_
     have BK279 := n3_
     have HB := n4_
     clear n0_ n1_ n2_ n3_ n4_
     (try clear hb)
     have p41 : 0 ≤ (t282 : Int) := sqd
     have q41 : (t282 : Int) < ((x280001_2.length : Int) : Int) := sqd
     obtain ⟨hx41_0, hf41_0⟩ := Kd.R_celln 0 HO_280001.out (t282 : Int) p41 q41
     replace p41 := eq_true p41
     replace q41 := eq_true q41
     have HP48 := Kd.R_putn HO_280001.out (t282 : Int) 1099511627776
     rw [← Ny283.out] at HP48
     have HQ48 := Aside0.mk HP48
     clear HP48
     refine hK.out _ _ sqz (fun hHeld => ?_)
     clear hK K
     refine sqnm ?_
     refine sqp HT_ 6 45 ?_
     refine last_ (i := 7) (N := none) #[true, true, true, true, true, true, true, true] rfl rfl (one_of HT_.out (by kernel_rfl)) (by decide) (fun K hK => ?_)
     refine skip_ (w1 := ?_) (by rfl) rfl ?_ ?_
     rotate_left
     ·go_simp
      rfl
     refine hK.out _ _ ?_
     clear hK K
     refine done_ (done_of HT_.out (by kernel_rfl)) ?_
     try go_wp2
     go_roundg k2
     case measure => have := HJ2.out; have := HK2.out; omega
     case rel => exact ⟨(wrap64 (x26_2 + 1)), (y283), (.slice (some ⟨go37, 0, none⟩) x280001_2.length co37), (by first | rfl | (simp; done) | (simp [*]; done)), H', ⟨by have := HJ2.out; have := HK2.out; omega⟩, ⟨sqy HQ48.out⟩, ⟨by refine sqt ?_; refine blk_far ?_ (by have h_ := Kd.R_ne HO_280001.out BK272.out (by decide); intro e_; exact h_ (by rw [e_]; rfl)) _; refine sqt ?_; exact BK272.out⟩, ⟨by refine sqt ?_; refine blk_far ?_ (by have h_ := Kd.R_ne HO_280001.out BK273.out (by decide); intro e_; exact h_ (by rw [e_]; rfl)) _; refine sqt ?_; exact BK273.out⟩, ⟨by refine sqt ?_; refine blk_far ?_ (by have h_ := Kd.R_ne HO_280001.out BK279.out (by decide); intro e_; exact h_ (by rw [e_]; rfl)) _; refine sqt ?_; exact BK279.out⟩, ⟨by repeat (first | (with_reducible first | exact HB.out | apply below_alloc | apply pw_below_drewN | apply below_drew1 | refine below_set ?_ GB37.out | refine below_set ?_ GE272.out | refine below_set ?_ GE273.out | refine below_set ?_ GE279.out) | exact HB.out)⟩⟩

/-! ### impl_gapsTogether: function 112 -/
set_option maxHeartbeats 8000000 in
set_option maxRecDepth 100000 in
theorem impl_gapsTogether.calls (a0 : Int) (a1 : Int) (r : Int) (w : World) (h : impl_gapsTogether.f a0 a1 = some r) :
  Calls Try.prog 112 #[.int .i64 a0, .int .i64 a1] w fun e w' => e = .returned (.int .i64 r) ∧ Drawn0 w w' := by
 have H : (if a0 = 1099511627776 then (some 1099511627776) else (if a1 = 1099511627776 then (some 1099511627776) else (if (wrap64 (a0 + a1)) ≥ 1099511627776 then (some 1099511627776) else (some (wrap64 (a0 + a1)))))) = some r := h
 clear h
 replace H := sqj H
 rcases H with ⟨c3, H⟩ | ⟨c3, H⟩
 ·have c3b0 : (a0 == 1099511627776) = true := beq_iff_eq.mpr c3
  have c3b1 : (a0 != 1099511627776) = false := bne_eq_false_iff_eq.mpr c3
  clear c3
  obtain rfl := Option.some.inj H
  go_enter Try.func112, Try.ntmps112
  go_wp2
  go_ret
  exact ⟨by first | rfl | (simp; done) | (simp [*]; done), by repeat (first | exact Drawn0.refl _ | apply Drawn0.step)⟩
 have c3b0 : (a0 == 1099511627776) = false := beq_eq_false_iff_ne.mpr c3
 have c3b1 : (a0 != 1099511627776) = true := bne_iff_ne.mpr c3
 replace H := sqj H
 rcases H with ⟨c4, H⟩ | ⟨c4, H⟩
 ·have c4b0 : (a1 == 1099511627776) = true := beq_iff_eq.mpr c4
  have c4b1 : (a1 != 1099511627776) = false := bne_eq_false_iff_eq.mpr c4
  clear c4
  obtain rfl := Option.some.inj H
  go_enter Try.func112, Try.ntmps112
  go_wp2
  go_ret
  exact ⟨by first | rfl | (simp; done) | (simp [*]; done), by repeat (first | exact Drawn0.refl _ | apply Drawn0.step)⟩
 have c4b0 : (a1 == 1099511627776) = false := beq_eq_false_iff_ne.mpr c4
 have c4b1 : (a1 != 1099511627776) = true := bne_iff_ne.mpr c4
 replace H := sqj H
 rcases H with ⟨c5, H⟩ | ⟨c5, H⟩
 ·have c5b0 : decide (1099511627776 ≤ (wrap64 (a0 + a1))) = true := decide_eq_true c5
  clear c5
  obtain rfl := Option.some.inj H
  go_enter Try.func112, Try.ntmps112
  go_wp2
  go_ret
  exact ⟨by first | rfl | (simp; done) | (simp [*]; done), by repeat (first | exact Drawn0.refl _ | apply Drawn0.step)⟩
 have c5b0 : decide (1099511627776 ≤ (wrap64 (a0 + a1))) = false := decide_eq_false c5
 clear c5
 obtain rfl := Option.some.inj H
 go_enter Try.func112, Try.ntmps112
 go_wp2
 go_ret
 exact ⟨by first | rfl | (simp; done) | (simp [*]; done), by repeat (first | exact Drawn0.refl _ | apply Drawn0.step)⟩

end Go.Proofs.Ytkekcenlleebeaa.PFnGapsDo
