/- Functions of the program as plain Lean functions, and that calls of them come to what these tell. Conditions: those in each law. -/
import Derived.Test.YtkekcenlleebeaaSq
import Derived.Test.YtkekcenlleebeaaDFnValMake
import Derived.Test.YtkekcenlleebeaaQFnValMakex0
import Derived.Test.YtkekcenlleebeaaQFnValMakex2
import Derived.Test.YtkekcenlleebeaaQFnValMakex5
import Derived.Test.YtkekcenlleebeaaQFnValMakex6
import Derived.Test.YtkekcenlleebeaaQFnValMakex7
import Derived.Test.YtkekcenlleebeaaQFnValMakex8
namespace Go.Proofs.Ytkekcenlleebeaa.PFnValMake
open Go.RowKit Go.Proofs.Ytkekcenlleebeaa.Sq Go.Proofs.YtkekcenlleebeaaW.PrintWords Go.Proofs.YtkekcenlleebeaaW.PrintLast Go.Proofs.YtkekcenlleebeaaW.PrintMore
attribute [local go_sem] max2_int min2_int max_two min_two max_three min_three max_four min_four   -- for this text's walks alone
set_option linter.unusedVariables false
set_option linter.unusedSimpArgs false

attribute [local go_sem high] eqA30
/-! ### impl_Val_span: function 103 -/
set_option maxHeartbeats 8000000 in
set_option maxRecDepth 100000 in
theorem impl_Val_span.calls (a0_0 : Int) (a0_1 : Int) (a0_2 : Int) (a0_3 : Int) (r1 : Int) (r2 : Int) (w : World) (h : impl_Val_span.f a0_0 a0_1 a0_2 a0_3 = some (r1, r2)) :
    Calls Try.prog 103 #[.agg #[.int .i64 a0_0, .int .i64 a0_1, .int .i64 a0_2, .int .i64 a0_3]] w fun e w' => e = .returned (.agg #[.int .i64 r1, .int .i64 r2]) ∧ Below w.heap.size w w' := by
  have hu30 := Try.underlying30
  have hu24 := Try.underlying24
  have HB := Aside0.mk (Below.refl w.heap.size w)
  have H : (some (a0_0, a0_1)) = some (r1, r2) := h
  clear h
  simp only [Option.some.injEq, Prod.mk.injEq] at H
  obtain ⟨rfl, rfl⟩ := H
  go_enter Try.func103, Try.ntmps103
  go_wp2_with (first | ((with_reducible refine gate_dst (N := 1) rfl ?_); refine sqx 1 #[.int .i64 a0_0, .int .i64 a0_1, .int .i64 a0_2, .int .i64 a0_3] 30 ?_; intro gb311 hg w2 hbox hb; have BK311 := Aside0.mk (hbox); have GW311 := sqg HB hg; have GE311 := sqg HB hg; replace HB := sqs HB hb; clear hb hbox hg) | ((with_reducible refine gate_dst (N := 2) rfl ?_); refine sqx 2 #[.int .i64 0, .int .i64 0] 24 ?_; intro gb312 hg w3 hbox hb; have BK312 := Aside0.mk (hbox); have GW312 := sqg HB hg; have GE312 := sqg HB hg; have NB311_312 := sqn BK311 hg; have NB312_311 := sqm BK311 hg; replace BK311 := sqb BK311 hb; replace HB := sqs HB hb; clear hb hbox hg; have hnb4 := NB311_312.out; have hnc4 := NB312_311.out; obtain ⟨hcz5_0, hcz5_1, hcz5_2, hcz5_3, hfz5_0, hfz5_1, hfz5_2, hfz5_3⟩ := sqc4 BK311; obtain ⟨hcz6_0, hcz6_1, hfz6_0, hfz6_1⟩ := sqc2 BK312))
  refine bodyPost_ret (results_cell_row rfl _ _ gb312 24 #[.int .i64 a0_0, .int .i64 a0_1] (0, 0) _ rfl (by refine sqt ?_; refine blk_put (cs := #[.int .i64 a0_0, .int .i64 0]) ?_ 1 _ rfl; refine sqt ?_; refine blk_put (cs := #[.int .i64 0, .int .i64 0]) ?_ 0 _ rfl; refine sqt ?_; exact BK312.out) Try.underlying24 rfl (by kernel_rfl)) rfl ?_
  exact sqe HB

/-! ### impl_Val_rest: function 104 -/
set_option maxHeartbeats 8000000 in
set_option maxRecDepth 100000 in
theorem impl_Val_rest.calls (a0_0 : Int) (a0_1 : Int) (a0_2 : Int) (a0_3 : Int) (r1 : Int) (r2 : Int) (w : World) (h : impl_Val_rest.f a0_0 a0_1 a0_2 a0_3 = some (r1, r2)) :
    Calls Try.prog 104 #[.agg #[.int .i64 a0_0, .int .i64 a0_1, .int .i64 a0_2, .int .i64 a0_3]] w fun e w' => e = .returned (.agg #[.int .i64 r1, .int .i64 r2]) ∧ Below w.heap.size w w' := by
  have hu30 := Try.underlying30
  have hu26 := Try.underlying26
  have HB := Aside0.mk (Below.refl w.heap.size w)
  have H : (some (a0_2, a0_3)) = some (r1, r2) := h
  clear h
  simp only [Option.some.injEq, Prod.mk.injEq] at H
  obtain ⟨rfl, rfl⟩ := H
  go_enter Try.func104, Try.ntmps104
  go_wp2_with (first | ((with_reducible refine gate_dst (N := 1) rfl ?_); refine sqx 1 #[.int .i64 a0_0, .int .i64 a0_1, .int .i64 a0_2, .int .i64 a0_3] 30 ?_; intro gb313 hg w2 hbox hb; have BK313 := Aside0.mk (hbox); have GW313 := sqg HB hg; have GE313 := sqg HB hg; replace HB := sqs HB hb; clear hb hbox hg) | ((with_reducible refine gate_dst (N := 2) rfl ?_); refine sqx 2 #[.int .i64 0, .int .i64 0] 26 ?_; intro gb314 hg w3 hbox hb; have BK314 := Aside0.mk (hbox); have GW314 := sqg HB hg; have GE314 := sqg HB hg; have NB313_314 := sqn BK313 hg; have NB314_313 := sqm BK313 hg; replace BK313 := sqb BK313 hb; replace HB := sqs HB hb; clear hb hbox hg; have hnb4 := NB313_314.out; have hnc4 := NB314_313.out; obtain ⟨hcz5_0, hcz5_1, hcz5_2, hcz5_3, hfz5_0, hfz5_1, hfz5_2, hfz5_3⟩ := sqc4 BK313; obtain ⟨hcz6_0, hcz6_1, hfz6_0, hfz6_1⟩ := sqc2 BK314))
  refine bodyPost_ret (results_cell_row rfl _ _ gb314 26 #[.int .i64 a0_2, .int .i64 a0_3] (0, 0) _ rfl (by refine sqt ?_; refine blk_put (cs := #[.int .i64 a0_2, .int .i64 0]) ?_ 1 _ rfl; refine sqt ?_; refine blk_put (cs := #[.int .i64 0, .int .i64 0]) ?_ 0 _ rfl; refine sqt ?_; exact BK314.out) Try.underlying26 rfl (by kernel_rfl)) rfl ?_
  exact sqe HB

/-! ### impl_ValOk: function 18 -/
theorem impl_ValOk.mono : ∀ a0 a1 a2 a3 k, LeO (impl_ValOk.f k a0 a1 a2 a3) (impl_ValOk.f (k + 1) a0 a1 a2 a3) := by
  intro a0 a1 a2 a3 k
  unfold impl_ValOk.f
  repeat' first
      | (with_reducible exact impl_ValMake.mono _ _ _ _ _)
      | (with_reducible exact LeO.refl _)
      | (with_reducible exact LeO.none _)
      | (with_reducible refine LeO.ite ?_ ?_)
      | (with_reducible refine LeO.bind ?_ (fun _ => ?_))
      | exact impl_ValMake.mono _ _ _ _ _
      | exact LeO.none _
      | refine LeO.ite ?_ ?_
      | refine LeO.bind ?_ (fun _ => ?_)
def impl_ValOk.T1 : Bool × List (List Nat × List Nat) := (true, [([], []), ([], []), ([1], [1]), ([], []), ([3, 2], [3]), ([2, 4, 4], [2, 4]), ([0, 5], [0, 5]), ([6, 5, 0, 1, 2, 3, 4, 5, 6], [6])])
def impl_ValOk.B1 : List Nat := [0, 0, 2, 0, 14, 30, 63, 127]
theorem impl_ValOk.tab1 : rtab .any (opsOf Try.f18 1) = impl_ValOk.T1 := by kernel_rfl
theorem impl_ValOk.bits1 : waitsOk impl_ValOk.T1.2 impl_ValOk.B1 = true := by kernel_rfl
set_option maxHeartbeats 8000000 in
set_option maxRecDepth 100000 in
theorem impl_ValOk.calls (k : Nat) (a0_0 : Int) (a0_1 : Int) (a0_2 : Int) (a0_3 : Int) (r : Bool) (w : World) (h : impl_ValOk.f k a0_0 a0_1 a0_2 a0_3 = some r) :
    Calls Try.prog 18 #[.agg #[.int .i64 a0_0, .int .i64 a0_1, .int .i64 a0_2, .int .i64 a0_3]] w fun e w' => e = .returned (.bool r) ∧ Below w.heap.size w w' := by
  have hu30 := Try.underlying30
  have HB := Aside0.mk (Below.refl w.heap.size w)
  have H : ((impl_Val_span.f a0_0 a0_1 a0_2 a0_3).bind fun bt316 => ((impl_Val_rest.f a0_0 a0_1 a0_2 a0_3).bind fun bt318 => ((impl_ValMake.f k bt316.1 bt316.2 bt318.1 bt318.2).bind fun bt320 => (some (a0_0 == bt320.1 && (a0_1 == bt320.2.1 && (a0_2 == bt320.2.2.1 && (a0_3 == bt320.2.2.2)))))))) = some r := h
  clear h
  replace H := Option.bind_eq_some_iff.mp H
  obtain ⟨⟨t316, t317⟩, A20, H⟩ := H
  replace H : ((impl_Val_rest.f a0_0 a0_1 a0_2 a0_3).bind fun bt318 => ((impl_ValMake.f k t316 t317 bt318.1 bt318.2).bind fun bt320 => (some (a0_0 == bt320.1 && (a0_1 == bt320.2.1 && (a0_2 == bt320.2.2.1 && (a0_3 == bt320.2.2.2))))))) = some r := H
  have A2 := Aside0.mk A20
  clear A20
  replace H := Option.bind_eq_some_iff.mp H
  obtain ⟨⟨t318, t319⟩, A30, H⟩ := H
  replace H : ((impl_ValMake.f k t316 t317 t318 t319).bind fun bt320 => (some (a0_0 == bt320.1 && (a0_1 == bt320.2.1 && (a0_2 == bt320.2.2.1 && (a0_3 == bt320.2.2.2)))))) = some r := H
  have A3 := Aside0.mk A30
  clear A30
  replace H := Option.bind_eq_some_iff.mp H
  obtain ⟨⟨t320, t321, t322, t323⟩, A40, H⟩ := H
  replace H : (some (a0_0 == t320 && (a0_1 == t321 && (a0_2 == t322 && (a0_3 == t323))))) = some r := H
  have A4 := Aside0.mk A40
  clear A40
  obtain rfl := Option.some.inj H
  go_enter Try.func18, Try.ntmps18
  try go_wp2_with (first | ((with_reducible refine gate_dst (N := 1) rfl ?_); refine sqx 1 #[.int .i64 a0_0, .int .i64 a0_1, .int .i64 a0_2, .int .i64 a0_3] 30 ?_; intro gb315 hg w5 hbox hb; have BK315 := Aside0.mk (hbox); have GW315 := sqg HB hg; have GE315 := sqg HB hg; replace HB := sqs HB hb; clear hb hbox hg))
  replace BK315 := Aside0.mk (blk_drew BK315.out)
  replace HB := Aside0.mk (below_drew1 HB.out)
  refine start_ (n := 8) (S := fun w' => w'.cell? ⟨gb315, 0, none⟩ = some (.int .i64 a0_0) ∧ w'.cell? ⟨gb315, 1, none⟩ = some (.int .i64 a0_1) ∧ w'.cell? ⟨gb315, 2, none⟩ = some (.int .i64 a0_2) ∧ w'.cell? ⟨gb315, 3, none⟩ = some (.int .i64 a0_3)) (ds := []) #[false, false, false, false, false, false, false, false] (by kernel_rfl) rfl rfl ⟨(blk_cell BK315.out 0).trans rfl, (blk_cell BK315.out 1).trans rfl, (blk_cell BK315.out 2).trans rfl, (blk_cell BK315.out 3).trans rfl⟩ (fun hHeld => ?_); refine with_tabW impl_ValOk.tab1 impl_ValOk.bits1 (fun HT_ HW_ => ?_)
  generalize w5.drew = w6 at BK315 HB hHeld ⊢
  refine sqw HT_ HW_ 0 3 hHeld ?_
  refine sqw HT_ HW_ 1 4 hHeld ?_
  refine sqw HT_ HW_ 3 6 hHeld ?_
  refine sqo HT_ 2 5 (fun K hK => ?_)
  refine sqG Try.func103 #[.agg #[.int .i64 a0_0, .int .i64 a0_1, .int .i64 a0_2, .int .i64 a0_3]] ?_
  with_reducible refine (impl_Val_span.calls a0_0 a0_1 a0_2 a0_3 t316 t317 _ A2.out).mono ?_
  rintro e w7 ⟨rfl, hb⟩
  refine ⟨_, rfl, ?_⟩
  replace BK315 := sqb BK315 hb
  replace HB := sqs HB hb
  (try clear hb)
  refine hK.out _ _ sqz (fun hHeld => ?_)
  clear hK K
  refine sqnm ?_
  refine sqo HT_ 4 7 (fun K hK => ?_)
  refine sqG Try.func104 #[.agg #[.int .i64 a0_0, .int .i64 a0_1, .int .i64 a0_2, .int .i64 a0_3]] ?_
  with_reducible refine (impl_Val_rest.calls a0_0 a0_1 a0_2 a0_3 t318 t319 _ A3.out).mono ?_
  rintro e w8 ⟨rfl, hb⟩
  refine ⟨_, rfl, ?_⟩
  replace BK315 := sqb BK315 hb
  replace HB := sqs HB hb
  (try clear hb)
  refine hK.out _ _ sqz (fun hHeld => ?_)
  clear hK K
  refine sqnm ?_
  refine sqo HT_ 5 8 (fun K hK => ?_)
  refine sqG Try.func16 #[.agg #[.int .i64 t316, .int .i64 t317], .agg #[.int .i64 t318, .int .i64 t319]] ?_
  with_reducible refine (impl_ValMake.calls k t316 t317 t318 t319 t320 t321 t322 t323 _ A4.out).mono ?_
  rintro e w9 ⟨rfl, hb⟩
  refine ⟨_, rfl, ?_⟩
  replace BK315 := sqb BK315 hb
  replace HB := sqs HB hb
  (try clear hb)
  refine hK.out _ _ sqz (fun hHeld => ?_)
  clear hK K
  refine sqnm ?_
  refine sqp HT_ 6 9 ?_
  refine sqp HT_ 7 2 ?_
  refine done_ (done_of HT_.out (by kernel_rfl)) ?_
  try go_wp2
  go_ret
  exact sqe HB

/-! ### impl_RestHas: function 68 -/
theorem impl_RestHas.mono_l : ∀ k, (∀ y0 y1 y2 y3, LeO (impl_RestHas.j0 k y0 y1 y2 y3) (impl_RestHas.j0 (k + 1) y0 y1 y2 y3))
  | 0 => fun _ _ _ _ r h => by simp [impl_RestHas.j0] at h
  | k + 1 => by
    have ih0 := impl_RestHas.mono_l k
    · intro y0 y1 y2 y3
      unfold impl_RestHas.j0
      repeat' first
      | (with_reducible exact ih0 _ _ _ _)
      | (with_reducible exact LeO.refl _)
      | (with_reducible exact LeO.none _)
      | (with_reducible refine LeO.ite ?_ ?_)
      | (with_reducible refine LeO.bind ?_ (fun _ => ?_))
      | exact ih0 _ _ _ _
      | exact LeO.none _
      | refine LeO.ite ?_ ?_
      | refine LeO.bind ?_ (fun _ => ?_)
theorem impl_RestHas.mono : ∀ a0 a1 a2 k, LeO (impl_RestHas.f k a0 a1 a2) (impl_RestHas.f (k + 1) a0 a1 a2) := by
  intro a0 a1 a2 k
  have ih0 := impl_RestHas.mono_l k
  unfold impl_RestHas.f
  repeat' first
      | (with_reducible exact ih0 _ _ _ _)
      | (with_reducible exact LeO.refl _)
      | (with_reducible exact LeO.none _)
      | (with_reducible refine LeO.ite ?_ ?_)
      | (with_reducible refine LeO.bind ?_ (fun _ => ?_))
      | exact ih0 _ _ _ _
      | exact LeO.none _
      | refine LeO.ite ?_ ?_
      | refine LeO.bind ?_ (fun _ => ?_)
set_option maxHeartbeats 8000000 in
set_option maxRecDepth 100000 in
theorem impl_RestHas.calls (k : Nat) (a0_0 : Int) (a0_1 : Int) (a1 : Int) (r : Bool) (w : World) (h : impl_RestHas.f k a0_0 a0_1 a1 = some r) :
    Calls Try.prog 68 #[.agg #[.int .i64 a0_0, .int .i64 a0_1], .int .i64 a1] w fun e w' => e = .returned (.bool r) ∧ Below w.heap.size w w' := by
  have hu26 := Try.underlying26
  have HB := Aside0.mk (Below.refl w.heap.size w)
  have H : ((impl_RestOk.f a0_0 a0_1).bind fun t325 => (if t325 = true then ((impl_NumOk.f a1).bind fun t326 => (impl_RestHas.j0 k a1 (!t326) a0_0 a0_1)) else (impl_RestHas.j0 k a1 true a0_0 a0_1))) = some r := h
  clear h
  have HC3 := Aside0.mk H
  clear H
  go_enter Try.func68, Try.ntmps68
  go_upto_region 1 with (first | ((with_reducible refine gate_dst (N := 2) rfl ?_); refine sqx 2 #[.int .i64 a0_0, .int .i64 a0_1] 26 ?_; intro gb324 hg w4 hbox hb; have BK324 := Aside0.mk (hbox); have GW324 := sqg HB hg; have GE324 := sqg HB hg; replace HB := sqs HB hb; clear hb hbox hg))
  repeat (go_quiet (first | ((with_reducible refine gate_dst (N := 2) rfl ?_); refine sqx 2 #[.int .i64 a0_0, .int .i64 a0_1] 26 ?_; intro gb324 hg w4 hbox hb; have BK324 := Aside0.mk (hbox); have GW324 := sqg HB hg; have GE324 := sqg HB hg; replace HB := sqs HB hb; clear hb hbox hg)); go_upto_region 1 with (first | ((with_reducible refine gate_dst (N := 2) rfl ?_); refine sqx 2 #[.int .i64 a0_0, .int .i64 a0_1] 26 ?_; intro gb324 hg w4 hbox hb; have BK324 := Aside0.mk (hbox); have GW324 := sqg HB hg; have GE324 := sqg HB hg; replace HB := sqs HB hb; clear hb hbox hg)))
  (try simp only [Act.put, List.setIfInBounds_toArray, List.set_cons_zero, List.set_cons_succ])
  go_cut [12] (fun v12 wc => ∃ (kq : Nat) (x12_2 : Bool), v12 = .bool x12_2 ∧ Aside0 (impl_RestHas.j0 kq a1 x12_2 a0_0 a0_1 = some r) ∧ Aside0 (kq ≤ k) ∧ Aside0 (wc.heap[gb324]? = some (.cells #[.int .i64 a0_0, .int .i64 a0_1] 26 (0, 0))) ∧ Aside0 (Below w.heap.size w wc))
  case first =>
    have H := HC3.out
    clear HC3
    replace H := Option.bind_eq_some_iff.mp H
    obtain ⟨t325, A50, H⟩ := H
    replace H : (if t325 = true then ((impl_NumOk.f a1).bind fun t326 => (impl_RestHas.j0 k a1 (!t326) a0_0 a0_1)) else (impl_RestHas.j0 k a1 true a0_0 a0_1)) = some r := H
    have A5 := Aside0.mk A50
    clear A50
    by_cases c6 : t325 = true
    · subst c6
      have H1 : ((impl_NumOk.f a1).bind fun t326 => (impl_RestHas.j0 k a1 (!t326) a0_0 a0_1)) = some r := by rw [if_pos rfl] at H; exact H
      clear H
      have H := H1
      clear H1
      replace H := Option.bind_eq_some_iff.mp H
      obtain ⟨t326, A70, H⟩ := H
      replace H : (impl_RestHas.j0 k a1 (!t326) a0_0 a0_1) = some r := H
      have A7 := Aside0.mk A70
      clear A70
      have H' := Aside0.mk H
      clear H
      obtain ⟨hcz8_0, hcz8_1, hfz8_0, hfz8_1⟩ := sqc2 BK324
      go_wp2_with (first | (go_at_call 65; (with_reducible refine (impl_RestOk.calls a0_0 a0_1 true _ A5.out).mono ?_); rintro e w9 ⟨rfl, hb⟩; replace BK324 := sqb BK324 hb; replace HB := sqs HB hb; (try clear hb)) | (go_at_call 117; (with_reducible refine (impl_NumOk.calls a1 t326 _ A7.out).mono ?_); rintro e w' ⟨rfl, ⟨nd, rfl⟩⟩; (try first | exact ⟨rfl, _, World.drewN_drewN _ _ _⟩ | exact ⟨rfl, _, Eq.trans (World.drewN_drewN _ _ _) (congrArg (World.drewN _) (Nat.add_assoc _ _ _))⟩)))
      repeat (go_quiet (first | (go_at_call 65; (with_reducible refine (impl_RestOk.calls a0_0 a0_1 true _ A5.out).mono ?_); rintro e w9 ⟨rfl, hb⟩; replace BK324 := sqb BK324 hb; replace HB := sqs HB hb; (try clear hb)) | (go_at_call 117; (with_reducible refine (impl_NumOk.calls a1 t326 _ A7.out).mono ?_); rintro e w' ⟨rfl, ⟨nd, rfl⟩⟩; (try first | exact ⟨rfl, _, World.drewN_drewN _ _ _⟩ | exact ⟨rfl, _, Eq.trans (World.drewN_drewN _ _ _) (congrArg (World.drewN _) (Nat.add_assoc _ _ _))⟩))); try go_wp2_with (first | (go_at_call 65; (with_reducible refine (impl_RestOk.calls a0_0 a0_1 true _ A5.out).mono ?_); rintro e w9 ⟨rfl, hb⟩; replace BK324 := sqb BK324 hb; replace HB := sqs HB hb; (try clear hb)) | (go_at_call 117; (with_reducible refine (impl_NumOk.calls a1 t326 _ A7.out).mono ?_); rintro e w' ⟨rfl, ⟨nd, rfl⟩⟩; (try first | exact ⟨rfl, _, World.drewN_drewN _ _ _⟩ | exact ⟨rfl, _, Eq.trans (World.drewN_drewN _ _ _) (congrArg (World.drewN _) (Nat.add_assoc _ _ _))⟩))))
      go_meet
      case rel => exact ⟨_, (!t326), (by first | rfl | (simp; done) | (simp [*]; done)), H', ⟨by first | omega | exact Nat.le_refl _⟩, sqk BK324, sqh HB⟩
    · replace c6 := Bool.eq_false_iff.mpr c6
      subst c6
      have H1 : (impl_RestHas.j0 k a1 true a0_0 a0_1) = some r := by rw [if_neg (show ¬ (false = true) by decide)] at H; exact H
      clear H
      have H := H1
      clear H1
      have H' := Aside0.mk H
      clear H
      obtain ⟨hcz10_0, hcz10_1, hfz10_0, hfz10_1⟩ := sqc2 BK324
      go_wp2_with (first | (go_at_call 65; (with_reducible refine (impl_RestOk.calls a0_0 a0_1 false _ A5.out).mono ?_); rintro e w11 ⟨rfl, hb⟩; replace BK324 := sqb BK324 hb; replace HB := sqs HB hb; (try clear hb)))
      repeat (go_quiet (first | (go_at_call 65; (with_reducible refine (impl_RestOk.calls a0_0 a0_1 false _ A5.out).mono ?_); rintro e w11 ⟨rfl, hb⟩; replace BK324 := sqb BK324 hb; replace HB := sqs HB hb; (try clear hb))); try go_wp2_with (first | (go_at_call 65; (with_reducible refine (impl_RestOk.calls a0_0 a0_1 false _ A5.out).mono ?_); rintro e w11 ⟨rfl, hb⟩; replace BK324 := sqb BK324 hb; replace HB := sqs HB hb; (try clear hb))))
      go_meet
      case rel => exact ⟨_, (true), (by first | rfl | (simp; done) | (simp [*]; done)), H', ⟨by first | omega | exact Nat.le_refl _⟩, sqk BK324, sqh HB⟩
  case rest =>
    clear HC3
    obtain ⟨kq, x12_2, rfl, HA, HJ2, BK324, HB⟩ := hcut
    cases kq with
    | zero => exact absurd HA.out (by simp [impl_RestHas.j0])
    | succ kj2 =>
      have H := HA.out
      clear HA
      simp only [impl_RestHas.j0] at H
      by_cases c12 : x12_2 = true
      · subst c12
        have H1 : (some false) = some r := by rw [if_pos rfl] at H; exact H
        clear H
        have H := H1
        clear H1
        obtain rfl := Option.some.inj H
        go_wp2
        repeat (go_quiet (fail); try go_wp2)
        go_ret
        exact sqe HB
      · replace c12 := Bool.eq_false_iff.mpr c12
        subst c12
        have H1 : (if a0_0 = 0 then (some (a1 == a0_1)) else ((impl_restMod.f a1 a0_0).bind fun t327 => (some (t327 == a0_1)))) = some r := by rw [if_neg (show ¬ (false = true) by decide)] at H; exact H
        clear H
        have H := H1
        clear H1
        by_cases c13 : a0_0 = 0
        · rw [if_pos c13] at H
          have c13b0 : (a0_0 == 0) = true := beq_iff_eq.mpr c13
          have c13b1 : (a0_0 != 0) = false := bne_eq_false_iff_eq.mpr c13
          clear c13
          obtain rfl := Option.some.inj H
          obtain ⟨hcz14_0, hcz14_1, hfz14_0, hfz14_1⟩ := sqc2 BK324
          go_wp2
          repeat (go_quiet (fail); try go_wp2)
          go_ret
          exact sqe HB
        · rw [if_neg c13] at H
          have c13b0 : (a0_0 == 0) = false := beq_eq_false_iff_ne.mpr c13
          have c13b1 : (a0_0 != 0) = true := bne_iff_ne.mpr c13
          replace H := Option.bind_eq_some_iff.mp H
          obtain ⟨t327, A150, H⟩ := H
          replace H : (some (t327 == a0_1)) = some r := H
          have A15 := Aside0.mk A150
          clear A150
          obtain rfl := Option.some.inj H
          obtain ⟨hcz16_0, hcz16_1, hfz16_0, hfz16_1⟩ := sqc2 BK324
          go_wp2_with (first | (go_at_call 98; (with_reducible refine (impl_restMod.calls a1 a0_0 t327 _ A15.out).mono ?_); rintro e w' ⟨rfl, ⟨nd, rfl⟩⟩; (try first | exact ⟨rfl, _, World.drewN_drewN _ _ _⟩ | exact ⟨rfl, _, Eq.trans (World.drewN_drewN _ _ _) (congrArg (World.drewN _) (Nat.add_assoc _ _ _))⟩)))
          repeat (go_quiet (first | (go_at_call 98; (with_reducible refine (impl_restMod.calls a1 a0_0 t327 _ A15.out).mono ?_); rintro e w' ⟨rfl, ⟨nd, rfl⟩⟩; (try first | exact ⟨rfl, _, World.drewN_drewN _ _ _⟩ | exact ⟨rfl, _, Eq.trans (World.drewN_drewN _ _ _) (congrArg (World.drewN _) (Nat.add_assoc _ _ _))⟩))); try go_wp2_with (first | (go_at_call 98; (with_reducible refine (impl_restMod.calls a1 a0_0 t327 _ A15.out).mono ?_); rintro e w' ⟨rfl, ⟨nd, rfl⟩⟩; (try first | exact ⟨rfl, _, World.drewN_drewN _ _ _⟩ | exact ⟨rfl, _, Eq.trans (World.drewN_drewN _ _ _) (congrArg (World.drewN _) (Nat.add_assoc _ _ _))⟩))))
          go_ret
          exact sqe HB

/-! ### impl_ValHas: function 19 -/
theorem impl_ValHas.mono : ∀ a0 a1 a2 a3 a4 k, LeO (impl_ValHas.f k a0 a1 a2 a3 a4) (impl_ValHas.f (k + 1) a0 a1 a2 a3 a4) := by
  intro a0 a1 a2 a3 a4 k
  unfold impl_ValHas.f
  repeat' first
      | (with_reducible exact impl_RestHas.mono _ _ _ _)
      | (with_reducible exact impl_ValOk.mono _ _ _ _ _)
      | (with_reducible exact LeO.refl _)
      | (with_reducible exact LeO.none _)
      | (with_reducible refine LeO.ite ?_ ?_)
      | (with_reducible refine LeO.bind ?_ (fun _ => ?_))
      | exact impl_RestHas.mono _ _ _ _
      | exact impl_ValOk.mono _ _ _ _ _
      | exact LeO.none _
      | refine LeO.ite ?_ ?_
      | refine LeO.bind ?_ (fun _ => ?_)
set_option maxHeartbeats 8000000 in
set_option maxRecDepth 100000 in
theorem impl_ValHas.calls (k : Nat) (a0_0 : Int) (a0_1 : Int) (a0_2 : Int) (a0_3 : Int) (a1 : Int) (r : Bool) (w : World) (h : impl_ValHas.f k a0_0 a0_1 a0_2 a0_3 a1 = some r) :
    Calls Try.prog 19 #[.agg #[.int .i64 a0_0, .int .i64 a0_1, .int .i64 a0_2, .int .i64 a0_3], .int .i64 a1] w fun e w' => e = .returned (.bool r) ∧ Below w.heap.size w w' := by
  have hu30 := Try.underlying30
  have HB := Aside0.mk (Below.refl w.heap.size w)
  have H : ((impl_ValOk.f k a0_0 a0_1 a0_2 a0_3).bind fun t329 => (if t329 = true then ((impl_Val_span.f a0_0 a0_1 a0_2 a0_3).bind fun bt330 => ((impl_RangeHas.f bt330.1 bt330.2 a1).bind fun t332 => (if t332 = true then ((impl_Val_rest.f a0_0 a0_1 a0_2 a0_3).bind fun bt333 => ((impl_RestHas.f k bt333.1 bt333.2 a1).bind fun t335 => (some t335))) else (some false)))) else (some false))) = some r := h
  clear h
  replace H := Option.bind_eq_some_iff.mp H
  obtain ⟨t329, A30, H⟩ := H
  replace H : (if t329 = true then ((impl_Val_span.f a0_0 a0_1 a0_2 a0_3).bind fun bt330 => ((impl_RangeHas.f bt330.1 bt330.2 a1).bind fun t332 => (if t332 = true then ((impl_Val_rest.f a0_0 a0_1 a0_2 a0_3).bind fun bt333 => ((impl_RestHas.f k bt333.1 bt333.2 a1).bind fun t335 => (some t335))) else (some false)))) else (some false)) = some r := H
  have A3 := Aside0.mk A30
  clear A30
  by_cases c4 : t329 = true
  · subst c4
    have H1 : ((impl_Val_span.f a0_0 a0_1 a0_2 a0_3).bind fun bt330 => ((impl_RangeHas.f bt330.1 bt330.2 a1).bind fun t332 => (if t332 = true then ((impl_Val_rest.f a0_0 a0_1 a0_2 a0_3).bind fun bt333 => ((impl_RestHas.f k bt333.1 bt333.2 a1).bind fun t335 => (some t335))) else (some false)))) = some r := by rw [if_pos rfl] at H; exact H
    clear H
    have H := H1
    clear H1
    replace H := Option.bind_eq_some_iff.mp H
    obtain ⟨⟨t330, t331⟩, A50, H⟩ := H
    replace H : ((impl_RangeHas.f t330 t331 a1).bind fun t332 => (if t332 = true then ((impl_Val_rest.f a0_0 a0_1 a0_2 a0_3).bind fun bt333 => ((impl_RestHas.f k bt333.1 bt333.2 a1).bind fun t335 => (some t335))) else (some false))) = some r := H
    have A5 := Aside0.mk A50
    clear A50
    replace H := Option.bind_eq_some_iff.mp H
    obtain ⟨t332, A60, H⟩ := H
    replace H : (if t332 = true then ((impl_Val_rest.f a0_0 a0_1 a0_2 a0_3).bind fun bt333 => ((impl_RestHas.f k bt333.1 bt333.2 a1).bind fun t335 => (some t335))) else (some false)) = some r := H
    have A6 := Aside0.mk A60
    clear A60
    by_cases c7 : t332 = true
    · subst c7
      have H1 : ((impl_Val_rest.f a0_0 a0_1 a0_2 a0_3).bind fun bt333 => ((impl_RestHas.f k bt333.1 bt333.2 a1).bind fun t335 => (some t335))) = some r := by rw [if_pos rfl] at H; exact H
      clear H
      have H := H1
      clear H1
      replace H := Option.bind_eq_some_iff.mp H
      obtain ⟨⟨t333, t334⟩, A80, H⟩ := H
      replace H : ((impl_RestHas.f k t333 t334 a1).bind fun t335 => (some t335)) = some r := H
      have A8 := Aside0.mk A80
      clear A80
      replace H := Option.bind_eq_some_iff.mp H
      obtain ⟨t335, A90, H⟩ := H
      replace H : (some t335) = some r := H
      have A9 := Aside0.mk A90
      clear A90
      obtain rfl := Option.some.inj H
      go_enter Try.func19, Try.ntmps19
      go_wp2_with (first | ((with_reducible refine gate_dst (N := 2) rfl ?_); refine sqx 2 #[.int .i64 a0_0, .int .i64 a0_1, .int .i64 a0_2, .int .i64 a0_3] 30 ?_; intro gb328 hg w10 hbox hb; have BK328 := Aside0.mk (hbox); have GW328 := sqg HB hg; have GE328 := sqg HB hg; replace HB := sqs HB hb; clear hb hbox hg; obtain ⟨hcz11_0, hcz11_1, hcz11_2, hcz11_3, hfz11_0, hfz11_1, hfz11_2, hfz11_3⟩ := sqc4 BK328) | ((with_reducible refine gate_callee (f := 18) rfl ?_); refine sqL (some 6) Try.func18 #[.agg #[.int .i64 a0_0, .int .i64 a0_1, .int .i64 a0_2, .int .i64 a0_3]] ?_; (with_reducible refine (impl_ValOk.calls k a0_0 a0_1 a0_2 a0_3 true _ A3.out).mono ?_); rintro e w12 ⟨rfl, hb⟩; refine ⟨_, rfl, ?_⟩; replace BK328 := sqb BK328 hb; replace HB := sqs HB hb; (try clear hb); obtain ⟨hcz13_0, hcz13_1, hcz13_2, hcz13_3, hfz13_0, hfz13_1, hfz13_2, hfz13_3⟩ := sqc4 BK328) | (go_at_call 103; (with_reducible refine (impl_Val_span.calls a0_0 a0_1 a0_2 a0_3 t330 t331 _ A5.out).mono ?_); rintro e w14 ⟨rfl, hb⟩; replace BK328 := sqb BK328 hb; replace HB := sqs HB hb; (try clear hb)) | (go_at_call 48; (with_reducible refine (impl_RangeHas.calls t330 t331 a1 true _ A6.out).mono ?_); rintro e w15 ⟨rfl, hb⟩; replace BK328 := sqb BK328 hb; replace HB := sqs HB hb; (try clear hb); obtain ⟨hcz16_0, hcz16_1, hcz16_2, hcz16_3, hfz16_0, hfz16_1, hfz16_2, hfz16_3⟩ := sqc4 BK328) | (go_at_call 104; (with_reducible refine (impl_Val_rest.calls a0_0 a0_1 a0_2 a0_3 t333 t334 _ A8.out).mono ?_); rintro e w17 ⟨rfl, hb⟩; replace BK328 := sqb BK328 hb; replace HB := sqs HB hb; (try clear hb)) | (go_at_call 68; (with_reducible refine (impl_RestHas.calls k t333 t334 a1 t335 _ A9.out).mono ?_); rintro e w18 ⟨rfl, hb⟩; replace BK328 := sqb BK328 hb; replace HB := sqs HB hb; (try clear hb)))
      go_ret
      exact sqe HB
    · replace c7 := Bool.eq_false_iff.mpr c7
      subst c7
      have H1 : (some false) = some r := by rw [if_neg (show ¬ (false = true) by decide)] at H; exact H
      clear H
      have H := H1
      clear H1
      obtain rfl := Option.some.inj H
      go_enter Try.func19, Try.ntmps19
      go_wp2_with (first | ((with_reducible refine gate_dst (N := 2) rfl ?_); refine sqx 2 #[.int .i64 a0_0, .int .i64 a0_1, .int .i64 a0_2, .int .i64 a0_3] 30 ?_; intro gb328 hg w19 hbox hb; have BK328 := Aside0.mk (hbox); have GW328 := sqg HB hg; have GE328 := sqg HB hg; replace HB := sqs HB hb; clear hb hbox hg; obtain ⟨hcz20_0, hcz20_1, hcz20_2, hcz20_3, hfz20_0, hfz20_1, hfz20_2, hfz20_3⟩ := sqc4 BK328) | ((with_reducible refine gate_callee (f := 18) rfl ?_); refine sqL (some 6) Try.func18 #[.agg #[.int .i64 a0_0, .int .i64 a0_1, .int .i64 a0_2, .int .i64 a0_3]] ?_; (with_reducible refine (impl_ValOk.calls k a0_0 a0_1 a0_2 a0_3 true _ A3.out).mono ?_); rintro e w21 ⟨rfl, hb⟩; refine ⟨_, rfl, ?_⟩; replace BK328 := sqb BK328 hb; replace HB := sqs HB hb; (try clear hb); obtain ⟨hcz22_0, hcz22_1, hcz22_2, hcz22_3, hfz22_0, hfz22_1, hfz22_2, hfz22_3⟩ := sqc4 BK328) | (go_at_call 103; (with_reducible refine (impl_Val_span.calls a0_0 a0_1 a0_2 a0_3 t330 t331 _ A5.out).mono ?_); rintro e w23 ⟨rfl, hb⟩; replace BK328 := sqb BK328 hb; replace HB := sqs HB hb; (try clear hb)) | (go_at_call 48; (with_reducible refine (impl_RangeHas.calls t330 t331 a1 false _ A6.out).mono ?_); rintro e w24 ⟨rfl, hb⟩; replace BK328 := sqb BK328 hb; replace HB := sqs HB hb; (try clear hb)))
      go_ret
      exact sqe HB
  · replace c4 := Bool.eq_false_iff.mpr c4
    subst c4
    have H1 : (some false) = some r := by rw [if_neg (show ¬ (false = true) by decide)] at H; exact H
    clear H
    have H := H1
    clear H1
    obtain rfl := Option.some.inj H
    go_enter Try.func19, Try.ntmps19
    go_wp2_with (first | ((with_reducible refine gate_dst (N := 2) rfl ?_); refine sqx 2 #[.int .i64 a0_0, .int .i64 a0_1, .int .i64 a0_2, .int .i64 a0_3] 30 ?_; intro gb328 hg w25 hbox hb; have BK328 := Aside0.mk (hbox); have GW328 := sqg HB hg; have GE328 := sqg HB hg; replace HB := sqs HB hb; clear hb hbox hg; obtain ⟨hcz26_0, hcz26_1, hcz26_2, hcz26_3, hfz26_0, hfz26_1, hfz26_2, hfz26_3⟩ := sqc4 BK328) | ((with_reducible refine gate_callee (f := 18) rfl ?_); refine sqL (some 6) Try.func18 #[.agg #[.int .i64 a0_0, .int .i64 a0_1, .int .i64 a0_2, .int .i64 a0_3]] ?_; (with_reducible refine (impl_ValOk.calls k a0_0 a0_1 a0_2 a0_3 false _ A3.out).mono ?_); rintro e w27 ⟨rfl, hb⟩; refine ⟨_, rfl, ?_⟩; replace BK328 := sqb BK328 hb; replace HB := sqs HB hb; (try clear hb)))
    go_ret
    exact sqe HB

/-! ### laws_at: function 33 -/
set_option maxHeartbeats 8000000 in
set_option maxRecDepth 100000 in
theorem laws_at.calls (A0 : Option Addr) (c0 : Nat) (l0 : List Int) (a1 : Int) (r : Int) (w : World) (hr0 : Kd.C (Kd.int .u8) w A0 l0.length l0) (hc0 : l0.length ≤ c0) (h : laws_at.f l0 a1 = some r) :
    Calls Try.prog 33 #[.slice A0 l0.length c0, .int .i64 a1] w fun e w' => e = .returned (.int .u8 r) ∧ Drawn0 w w' := by
  have HR0 := Aside0.mk hr0
  have HC0 := Aside0.mk hc0
  clear hr0 hc0
  have H : (if (l0.length : Int) = 0 then (some ((wrap64 (a1 * 37)) % 256)) else (if a1 < (l0.length : Int) then (if 0 ≤ a1 then (some (rd l0 a1)) else (none)) else (if 0 ≤ (Int.tmod a1 (l0.length : Int)) then (if (Int.tmod a1 (l0.length : Int)) < (l0.length : Int) then (if 0 ≤ (Int.tmod (wrap64 ((wrap64 (a1 * 5)) + 1)) (l0.length : Int)) then (if (Int.tmod (wrap64 ((wrap64 (a1 * 5)) + 1)) (l0.length : Int)) < (l0.length : Int) then (some (((((((rd l0 (Int.tmod a1 (l0.length : Int))) * 31) % 256) + (rd l0 (Int.tmod (wrap64 ((wrap64 (a1 * 5)) + 1)) (l0.length : Int)))) % 256) + ((a1) % 256)) % 256)) else (none)) else (none)) else (none)) else (none)))) = some r := h
  clear h
  by_cases c3 : (l0.length : Int) = 0
  · rw [if_pos c3] at H
    have c3b0 : ((l0.length : Int) == 0) = true := beq_iff_eq.mpr c3
    have c3b1 : ((l0.length : Int) != 0) = false := bne_eq_false_iff_eq.mpr c3
    clear c3
    obtain rfl := Option.some.inj H
    go_enter Try.func33, Try.ntmps33
    go_wp2
    repeat (go_quiet (fail); try go_wp2)
    go_ret
    exact ⟨by first | rfl | (simp; done) | (simp [*]; done), by repeat (first | exact Drawn0.refl _ | apply Drawn0.step)⟩
  · rw [if_neg c3] at H
    have c3b0 : ((l0.length : Int) == 0) = false := beq_eq_false_iff_ne.mpr c3
    have c3b1 : ((l0.length : Int) != 0) = true := bne_iff_ne.mpr c3
    have c3b2 : ¬ (l0 = []) := fun h_ => c3 (by rw [h_]; rfl)
    by_cases c4 : a1 < (l0.length : Int)
    · rw [if_pos c4] at H
      have c4b0 : decide (a1 < (l0.length : Int)) = true := decide_eq_true c4
      clear c4
      by_cases c5 : 0 ≤ a1
      · rw [if_pos c5] at H
        have c5b0 : decide (0 ≤ a1) = true := decide_eq_true c5
        clear c5
        obtain rfl := Option.some.inj H
        have p336 : 0 ≤ (a1 : Int) := of_decide_eq_true (by first | (with_reducible assumption) | assumption)
        have q336 : a1 < (l0.length : Int) := of_decide_eq_true (by first | (with_reducible assumption) | assumption)
        obtain ⟨ad336, e336, hx336_0⟩ := Kd.at_int HR0.out a1 p336 q336
        cases e336
        replace p336 := eq_true p336
        replace q336 := eq_true q336
        go_enter Try.func33, Try.ntmps33
        go_wp2
        repeat (go_quiet (fail); try go_wp2)
        go_ret
        exact ⟨by first | rfl | (simp; done) | (simp [*]; done), by repeat (first | exact Drawn0.refl _ | apply Drawn0.step)⟩
      · rw [if_neg c5] at H
        exact absurd H (by simp)
    · rw [if_neg c4] at H
      have c4b0 : decide (a1 < (l0.length : Int)) = false := decide_eq_false c4
      clear c4
      obtain ⟨ji6, hji6⟩ : ∃ j_ : Int, (Int.tmod a1 (l0.length : Int)) = j_ := ⟨_, rfl⟩
      replace H : (if 0 ≤ (ji6) then (if (ji6) < (l0.length : Int) then (if 0 ≤ (Int.tmod (wrap64 ((wrap64 (a1 * 5)) + 1)) (l0.length : Int)) then (if (Int.tmod (wrap64 ((wrap64 (a1 * 5)) + 1)) (l0.length : Int)) < (l0.length : Int) then (some (((((((rd l0 (ji6)) * 31) % 256) + (rd l0 (Int.tmod (wrap64 ((wrap64 (a1 * 5)) + 1)) (l0.length : Int)))) % 256) + ((a1) % 256)) % 256)) else (none)) else (none)) else (none)) else (none)) = some r := by first | (rw [hji6] at H; exact H) | (simp only [hji6] at H ⊢; exact H)
      by_cases c7 : 0 ≤ (ji6)
      · rw [if_pos c7] at H
        have c7b0 : decide (0 ≤ (ji6)) = true := decide_eq_true c7
        clear c7
        by_cases c8 : (ji6) < (l0.length : Int)
        · rw [if_pos c8] at H
          have c8b0 : decide ((ji6) < (l0.length : Int)) = true := decide_eq_true c8
          clear c8
          obtain ⟨ji9, hji9⟩ : ∃ j_ : Int, (Int.tmod (wrap64 ((wrap64 (a1 * 5)) + 1)) (l0.length : Int)) = j_ := ⟨_, rfl⟩
          replace H : (if 0 ≤ (ji9) then (if (ji9) < (l0.length : Int) then (some (((((((rd l0 (ji6)) * 31) % 256) + (rd l0 (ji9))) % 256) + ((a1) % 256)) % 256)) else (none)) else (none)) = some r := by first | (rw [hji9] at H; exact H) | (simp only [hji9] at H ⊢; exact H)
          by_cases c10 : 0 ≤ (ji9)
          · rw [if_pos c10] at H
            have c10b0 : decide (0 ≤ (ji9)) = true := decide_eq_true c10
            clear c10
            by_cases c11 : (ji9) < (l0.length : Int)
            · rw [if_pos c11] at H
              have c11b0 : decide ((ji9) < (l0.length : Int)) = true := decide_eq_true c11
              clear c11
              obtain rfl := Option.some.inj H
              have p337 : 0 ≤ ((ji6) : Int) := of_decide_eq_true (by first | (with_reducible assumption) | assumption)
              have q337 : (ji6) < (l0.length : Int) := of_decide_eq_true (by first | (with_reducible assumption) | assumption)
              obtain ⟨ad337, e337, hx337_0⟩ := Kd.at_int HR0.out (ji6) p337 q337
              cases e337
              replace p337 := eq_true p337
              replace q337 := eq_true q337
              have p338 : 0 ≤ ((ji9) : Int) := of_decide_eq_true (by first | (with_reducible assumption) | assumption)
              have q338 : (ji9) < (l0.length : Int) := of_decide_eq_true (by first | (with_reducible assumption) | assumption)
              obtain ⟨ad338, e338, hx338_0⟩ := Kd.at_int HR0.out (ji9) p338 q338
              obtain rfl : ad337 = ad338 := (by injection e338)
              replace p338 := eq_true p338
              replace q338 := eq_true q338
              go_enter Try.func33, Try.ntmps33
              go_wp2
              repeat (go_quiet (fail); try go_wp2)
              go_ret
              exact ⟨by first | rfl | (simp; done) | (simp only [← hji6, ← hji9] <;> (first | rfl | simp)) | (simp [*]; done), by repeat (first | exact Drawn0.refl _ | apply Drawn0.step)⟩
            · rw [if_neg c11] at H
              exact absurd H (by simp)
          · rw [if_neg c10] at H
            exact absurd H (by simp)
        · rw [if_neg c8] at H
          exact absurd H (by simp)
      · rw [if_neg c7] at H
        exact absurd H (by simp)

/-! ### laws_wide: function 55 -/
set_option maxHeartbeats 8000000 in
set_option maxRecDepth 100000 in
theorem laws_wide.calls (A0 : Option Addr) (c0 : Nat) (l0 : List Int) (a1 : Int) (r : Int) (w : World) (hr0 : Kd.C (Kd.int .u8) w A0 l0.length l0) (hc0 : l0.length ≤ c0) (h : laws_wide.f l0 a1 = some r) :
    Calls Try.prog 55 #[.slice A0 l0.length c0, .int .i64 a1] w fun e w' => e = .returned (.int .i64 r) ∧ Drawn0 w w' := by
  have HR0 := Aside0.mk hr0
  have HC0 := Aside0.mk hc0
  clear hr0 hc0
  have H : ((laws_at.f l0 a1).bind fun t339 => ((laws_at.f l0 (wrap64 (a1 + 1))).bind fun t340 => ((laws_at.f l0 (wrap64 (a1 + 2))).bind fun t341 => ((laws_at.f l0 (wrap64 (a1 + 3))).bind fun t342 => (some (Go.bits .or .i64 (Go.bits .or .i64 (Go.bits .or .i64 (wrap64 ((wrap64 (t339)) * 16777216)) (wrap64 ((wrap64 (t340)) * 65536))) (wrap64 ((wrap64 (t341)) * 256))) (wrap64 (t342)))))))) = some r := h
  clear h
  replace H := Option.bind_eq_some_iff.mp H
  obtain ⟨t339, A30, H⟩ := H
  replace H : ((laws_at.f l0 (wrap64 (a1 + 1))).bind fun t340 => ((laws_at.f l0 (wrap64 (a1 + 2))).bind fun t341 => ((laws_at.f l0 (wrap64 (a1 + 3))).bind fun t342 => (some (Go.bits .or .i64 (Go.bits .or .i64 (Go.bits .or .i64 (wrap64 ((wrap64 (t339)) * 16777216)) (wrap64 ((wrap64 (t340)) * 65536))) (wrap64 ((wrap64 (t341)) * 256))) (wrap64 (t342))))))) = some r := H
  have A3 := Aside0.mk A30
  clear A30
  replace H := Option.bind_eq_some_iff.mp H
  obtain ⟨t340, A40, H⟩ := H
  replace H : ((laws_at.f l0 (wrap64 (a1 + 2))).bind fun t341 => ((laws_at.f l0 (wrap64 (a1 + 3))).bind fun t342 => (some (Go.bits .or .i64 (Go.bits .or .i64 (Go.bits .or .i64 (wrap64 ((wrap64 (t339)) * 16777216)) (wrap64 ((wrap64 (t340)) * 65536))) (wrap64 ((wrap64 (t341)) * 256))) (wrap64 (t342)))))) = some r := H
  have A4 := Aside0.mk A40
  clear A40
  replace H := Option.bind_eq_some_iff.mp H
  obtain ⟨t341, A50, H⟩ := H
  replace H : ((laws_at.f l0 (wrap64 (a1 + 3))).bind fun t342 => (some (Go.bits .or .i64 (Go.bits .or .i64 (Go.bits .or .i64 (wrap64 ((wrap64 (t339)) * 16777216)) (wrap64 ((wrap64 (t340)) * 65536))) (wrap64 ((wrap64 (t341)) * 256))) (wrap64 (t342))))) = some r := H
  have A5 := Aside0.mk A50
  clear A50
  replace H := Option.bind_eq_some_iff.mp H
  obtain ⟨t342, A60, H⟩ := H
  replace H : (some (Go.bits .or .i64 (Go.bits .or .i64 (Go.bits .or .i64 (wrap64 ((wrap64 (t339)) * 16777216)) (wrap64 ((wrap64 (t340)) * 65536))) (wrap64 ((wrap64 (t341)) * 256))) (wrap64 (t342)))) = some r := H
  have A6 := Aside0.mk A60
  clear A60
  obtain rfl := Option.some.inj H
  go_enter Try.func55, Try.ntmps55
  go_wp2_with (first | ((with_reducible refine gate_callee (f := 33) rfl ?_); refine sqL (some 7) Try.func33 #[.slice A0 l0.length c0, .int .i64 a1] ?_; (with_reducible refine (laws_at.calls _ _ l0 a1 t339 _ ?side1 ?side2 A3.out).mono ?_); (case side1 => repeat (first | exact HR0.out | (with_reducible refine Kd.C_alloc ?_ _) | (with_reducible refine Kd.C_drewN ?_ _) | (with_reducible refine Kd.C_drew ?_))); (case side2 => exact HC0.out); rintro e w' ⟨rfl, ⟨nd, rfl⟩⟩; refine ⟨_, rfl, ?_⟩) | ((with_reducible refine gate_callee (f := 33) rfl ?_); refine sqL (some 13) Try.func33 #[.slice A0 l0.length c0, .int .i64 (wrap64 (a1 + 1))] ?_; (with_reducible refine (laws_at.calls _ _ l0 (wrap64 (a1 + 1)) t340 _ ?side1 ?side2 A4.out).mono ?_); (case side1 => repeat (first | exact HR0.out | (with_reducible refine Kd.C_alloc ?_ _) | (with_reducible refine Kd.C_drewN ?_ _) | (with_reducible refine Kd.C_drew ?_))); (case side2 => exact HC0.out); rintro e w' ⟨rfl, ⟨nd, rfl⟩⟩; refine ⟨_, rfl, ?_⟩) | ((with_reducible refine gate_callee (f := 33) rfl ?_); refine sqL (some 20) Try.func33 #[.slice A0 l0.length c0, .int .i64 (wrap64 (a1 + 2))] ?_; (with_reducible refine (laws_at.calls _ _ l0 (wrap64 (a1 + 2)) t341 _ ?side1 ?side2 A5.out).mono ?_); (case side1 => repeat (first | exact HR0.out | (with_reducible refine Kd.C_alloc ?_ _) | (with_reducible refine Kd.C_drewN ?_ _) | (with_reducible refine Kd.C_drew ?_))); (case side2 => exact HC0.out); rintro e w' ⟨rfl, ⟨nd, rfl⟩⟩; refine ⟨_, rfl, ?_⟩) | ((with_reducible refine gate_callee (f := 33) rfl ?_); refine sqL (some 27) Try.func33 #[.slice A0 l0.length c0, .int .i64 (wrap64 (a1 + 3))] ?_; (with_reducible refine (laws_at.calls _ _ l0 (wrap64 (a1 + 3)) t342 _ ?side1 ?side2 A6.out).mono ?_); (case side1 => repeat (first | exact HR0.out | (with_reducible refine Kd.C_alloc ?_ _) | (with_reducible refine Kd.C_drewN ?_ _) | (with_reducible refine Kd.C_drew ?_))); (case side2 => exact HC0.out); rintro e w' ⟨rfl, ⟨nd, rfl⟩⟩; refine ⟨_, rfl, ?_⟩))
  go_ret
  exact ⟨by first | rfl | (simp; done) | (simp [*]; done), by repeat (first | exact Drawn0.refl _ | apply Drawn0.step)⟩

/-! ### laws_within: function 20 -/
theorem laws_within.mono_l : ∀ k, (∀ y0 y1 y2 y3 y4, LeO (laws_within.j0 k y0 y1 y2 y3 y4) (laws_within.j0 (k + 1) y0 y1 y2 y3 y4))
  | 0 => fun _ _ _ _ _ r h => by simp [laws_within.j0] at h
  | k + 1 => by
    have ih0 := laws_within.mono_l k
    · intro y0 y1 y2 y3 y4
      unfold laws_within.j0
      repeat' first
      | (with_reducible exact ih0 _ _ _ _ _)
      | (with_reducible exact LeO.refl _)
      | (with_reducible exact LeO.none _)
      | (with_reducible refine LeO.ite ?_ ?_)
      | (with_reducible refine LeO.bind ?_ (fun _ => ?_))
      | exact ih0 _ _ _ _ _
      | exact LeO.none _
      | refine LeO.ite ?_ ?_
      | refine LeO.bind ?_ (fun _ => ?_)
theorem laws_within.mono : ∀ a0 a1 a2 a3 k, LeO (laws_within.f k a0 a1 a2 a3) (laws_within.f (k + 1) a0 a1 a2 a3) := by
  intro a0 a1 a2 a3 k
  have ih0 := laws_within.mono_l k
  unfold laws_within.f
  repeat' first
      | (with_reducible exact ih0 _ _ _ _ _)
      | (with_reducible exact LeO.refl _)
      | (with_reducible exact LeO.none _)
      | (with_reducible refine LeO.ite ?_ ?_)
      | (with_reducible refine LeO.bind ?_ (fun _ => ?_))
      | exact ih0 _ _ _ _ _
      | exact LeO.none _
      | refine LeO.ite ?_ ?_
      | refine LeO.bind ?_ (fun _ => ?_)
set_option maxHeartbeats 8000000 in
set_option maxRecDepth 100000 in
theorem laws_within.calls (k : Nat) (a0_0 : Int) (a0_1 : Int) (A1 : Option Addr) (c1 : Nat) (l1 : List Int) (a2 : Int) (r : Int) (w : World) (hr1 : Kd.C (Kd.int .u8) w A1 l1.length l1) (hc1 : l1.length ≤ c1) (h : laws_within.f k a0_0 a0_1 l1 a2 = some r) :
    Calls Try.prog 20 #[.agg #[.int .i64 a0_0, .int .i64 a0_1], .slice A1 l1.length c1, .int .i64 a2] w fun e w' => e = .returned (.int .i64 r) ∧ Below w.heap.size w w' := by
  have hu24 := Try.underlying24
  have HR1 := Aside0.mk hr1
  have HC1 := Aside0.mk hc1
  clear hr1 hc1
  have HB := Aside0.mk (Below.refl w.heap.size w)
  have H : (if a0_0 > a0_1 then (laws_within.j0 k l1 a2 true a0_0 a0_1) else ((spec_RangeOk.f a0_0 a0_1).bind fun t344 => (laws_within.j0 k l1 a2 (!t344) a0_0 a0_1))) = some r := h
  clear h
  have HC4 := Aside0.mk H
  clear H
  go_enter Try.func20, Try.ntmps20
  go_upto_region 1 with (first | ((with_reducible refine gate_dst (N := 3) rfl ?_); refine sqx 3 #[.int .i64 a0_0, .int .i64 a0_1] 24 ?_; intro gb343 hg w5 hbox hb; have BK343 := Aside0.mk (hbox); have GW343 := sqg HB hg; have GE343 := sqg HB hg; replace HB := sqs HB hb; clear hb hbox hg))
  repeat (go_quiet (first | ((with_reducible refine gate_dst (N := 3) rfl ?_); refine sqx 3 #[.int .i64 a0_0, .int .i64 a0_1] 24 ?_; intro gb343 hg w5 hbox hb; have BK343 := Aside0.mk (hbox); have GW343 := sqg HB hg; have GE343 := sqg HB hg; replace HB := sqs HB hb; clear hb hbox hg)); go_upto_region 1 with (first | ((with_reducible refine gate_dst (N := 3) rfl ?_); refine sqx 3 #[.int .i64 a0_0, .int .i64 a0_1] 24 ?_; intro gb343 hg w5 hbox hb; have BK343 := Aside0.mk (hbox); have GW343 := sqg HB hg; have GE343 := sqg HB hg; replace HB := sqs HB hb; clear hb hbox hg)))
  (try simp only [Act.put, List.setIfInBounds_toArray, List.set_cons_zero, List.set_cons_succ])
  go_cut [18] (fun v18 wc => ∃ (kq : Nat) (x18_3 : Bool), v18 = .bool x18_3 ∧ Aside0 (laws_within.j0 kq l1 a2 x18_3 a0_0 a0_1 = some r) ∧ Aside0 (kq ≤ k) ∧ Aside0 (wc.heap[gb343]? = some (.cells #[.int .i64 a0_0, .int .i64 a0_1] 24 (0, 0))) ∧ Aside0 (Below w.heap.size w wc))
  case first =>
    have H := HC4.out
    clear HC4
    by_cases c6 : a0_0 > a0_1
    · rw [if_pos c6] at H
      have c6b0 : decide (a0_1 < a0_0) = true := decide_eq_true c6
      clear c6
      (first | rw [c6b0] | (simp only [i64_w, i32_w]; rw [c6b0]) | skip)
      have H' := Aside0.mk H
      clear H
      obtain ⟨hcz7_0, hcz7_1, hfz7_0, hfz7_1⟩ := sqc2 BK343
      go_wp2
      repeat (go_quiet (fail); try go_wp2)
      go_meet
      case rel => exact ⟨_, (true), (by first | rfl | (simp; done) | (simp [*]; done)), H', ⟨by first | omega | exact Nat.le_refl _⟩, sqk BK343, sqh HB⟩
    · rw [if_neg c6] at H
      have c6b0 : decide (a0_1 < a0_0) = false := decide_eq_false c6
      clear c6
      (first | rw [c6b0] | (simp only [i64_w, i32_w]; rw [c6b0]) | skip)
      replace H := Option.bind_eq_some_iff.mp H
      obtain ⟨t344, A80, H⟩ := H
      replace H : (laws_within.j0 k l1 a2 (!t344) a0_0 a0_1) = some r := H
      have A8 := Aside0.mk A80
      clear A80
      have H' := Aside0.mk H
      clear H
      obtain ⟨hcz9_0, hcz9_1, hfz9_0, hfz9_1⟩ := sqc2 BK343
      go_wp2_with (first | (go_at_call 45; (with_reducible refine (spec_RangeOk.calls a0_0 a0_1 t344 _ A8.out).mono ?_); rintro e w10 ⟨rfl, hb⟩; replace BK343 := sqb BK343 hb; replace HB := sqs HB hb; (try clear hb)))
      repeat (go_quiet (first | (go_at_call 45; (with_reducible refine (spec_RangeOk.calls a0_0 a0_1 t344 _ A8.out).mono ?_); rintro e w10 ⟨rfl, hb⟩; replace BK343 := sqb BK343 hb; replace HB := sqs HB hb; (try clear hb))); try go_wp2_with (first | (go_at_call 45; (with_reducible refine (spec_RangeOk.calls a0_0 a0_1 t344 _ A8.out).mono ?_); rintro e w10 ⟨rfl, hb⟩; replace BK343 := sqb BK343 hb; replace HB := sqs HB hb; (try clear hb))))
      go_meet
      case rel => exact ⟨_, (!t344), (by first | rfl | (simp; done) | (simp [*]; done)), H', ⟨by first | omega | exact Nat.le_refl _⟩, sqk BK343, sqh HB⟩
  case rest =>
    clear HC4
    try clear c1
    obtain ⟨kq, x18_3, rfl, HA, HJ3, BK343, HB⟩ := hcut
    cases kq with
    | zero => exact absurd HA.out (by simp [laws_within.j0])
    | succ kj3 =>
      have H := HA.out
      clear HA
      simp only [laws_within.j0] at H
      by_cases c11 : x18_3 = true
      · subst c11
        have H1 : ((laws_at.f l1 a2).bind fun t345 => (some (wrap64 ((wrap64 (t345)) - 128)))) = some r := by rw [if_pos rfl] at H; exact H
        clear H
        have H := H1
        clear H1
        replace H := Option.bind_eq_some_iff.mp H
        obtain ⟨t345, A120, H⟩ := H
        replace H : (some (wrap64 ((wrap64 (t345)) - 128))) = some r := H
        have A12 := Aside0.mk A120
        clear A120
        obtain rfl := Option.some.inj H
        go_wp2_with (first | (go_at_call 33; (with_reducible refine (laws_at.calls _ _ l1 a2 t345 _ ?side1 ?side2 A12.out).mono ?_); (case side1 => repeat (first | exact (Kd.C_below HR1.out HB.out) | (with_reducible refine Kd.C_alloc ?_ _) | (with_reducible refine Kd.C_drewN ?_ _) | (with_reducible refine Kd.C_drew ?_))); (case side2 => exact HC1.out); rintro e w' ⟨rfl, ⟨nd, rfl⟩⟩; (try first | exact ⟨rfl, _, World.drewN_drewN _ _ _⟩ | exact ⟨rfl, _, Eq.trans (World.drewN_drewN _ _ _) (congrArg (World.drewN _) (Nat.add_assoc _ _ _))⟩)))
        repeat (go_quiet (first | (go_at_call 33; (with_reducible refine (laws_at.calls _ _ l1 a2 t345 _ ?side1 ?side2 A12.out).mono ?_); (case side1 => repeat (first | exact (Kd.C_below HR1.out HB.out) | (with_reducible refine Kd.C_alloc ?_ _) | (with_reducible refine Kd.C_drewN ?_ _) | (with_reducible refine Kd.C_drew ?_))); (case side2 => exact HC1.out); rintro e w' ⟨rfl, ⟨nd, rfl⟩⟩; (try first | exact ⟨rfl, _, World.drewN_drewN _ _ _⟩ | exact ⟨rfl, _, Eq.trans (World.drewN_drewN _ _ _) (congrArg (World.drewN _) (Nat.add_assoc _ _ _))⟩))); try go_wp2_with (first | (go_at_call 33; (with_reducible refine (laws_at.calls _ _ l1 a2 t345 _ ?side1 ?side2 A12.out).mono ?_); (case side1 => repeat (first | exact (Kd.C_below HR1.out HB.out) | (with_reducible refine Kd.C_alloc ?_ _) | (with_reducible refine Kd.C_drewN ?_ _) | (with_reducible refine Kd.C_drew ?_))); (case side2 => exact HC1.out); rintro e w' ⟨rfl, ⟨nd, rfl⟩⟩; (try first | exact ⟨rfl, _, World.drewN_drewN _ _ _⟩ | exact ⟨rfl, _, Eq.trans (World.drewN_drewN _ _ _) (congrArg (World.drewN _) (Nat.add_assoc _ _ _))⟩))))
        go_ret
        exact sqe HB
      · replace c11 := Bool.eq_false_iff.mpr c11
        subst c11
        have H1 : ((laws_at.f l1 (wrap64 (a2 + 5))).bind fun t346 => (if (Int.tmod (wrap64 (t346)) 4) = 0 then ((laws_at.f l1 a2).bind fun t347 => (if (wrap64 ((wrap64 (a0_1 - a0_0)) + 1)) = 0 then (none) else (some (wrap64 (a0_0 + (Int.tmod (Int.tmod (wrap64 (t347)) 3) (wrap64 ((wrap64 (a0_1 - a0_0)) + 1)))))))) else (if (Int.tmod (wrap64 (t346)) 4) = 1 then ((laws_at.f l1 a2).bind fun t348 => (if (wrap64 ((wrap64 (a0_1 - a0_0)) + 1)) = 0 then (none) else (some (wrap64 (a0_1 - (Int.tmod (Int.tmod (wrap64 (t348)) 3) (wrap64 ((wrap64 (a0_1 - a0_0)) + 1)))))))) else ((laws_wide.f l1 a2).bind fun t349 => (if (wrap64 ((wrap64 (a0_1 - a0_0)) + 1)) = 0 then (none) else (some (wrap64 (a0_0 + (Int.tmod t349 (wrap64 ((wrap64 (a0_1 - a0_0)) + 1))))))))))) = some r := by rw [if_neg (show ¬ (false = true) by decide)] at H; exact H
        clear H
        have H := H1
        clear H1
        replace H := Option.bind_eq_some_iff.mp H
        obtain ⟨t346, A130, H⟩ := H
        replace H : (if (Int.tmod (wrap64 (t346)) 4) = 0 then ((laws_at.f l1 a2).bind fun t347 => (if (wrap64 ((wrap64 (a0_1 - a0_0)) + 1)) = 0 then (none) else (some (wrap64 (a0_0 + (Int.tmod (Int.tmod (wrap64 (t347)) 3) (wrap64 ((wrap64 (a0_1 - a0_0)) + 1)))))))) else (if (Int.tmod (wrap64 (t346)) 4) = 1 then ((laws_at.f l1 a2).bind fun t348 => (if (wrap64 ((wrap64 (a0_1 - a0_0)) + 1)) = 0 then (none) else (some (wrap64 (a0_1 - (Int.tmod (Int.tmod (wrap64 (t348)) 3) (wrap64 ((wrap64 (a0_1 - a0_0)) + 1)))))))) else ((laws_wide.f l1 a2).bind fun t349 => (if (wrap64 ((wrap64 (a0_1 - a0_0)) + 1)) = 0 then (none) else (some (wrap64 (a0_0 + (Int.tmod t349 (wrap64 ((wrap64 (a0_1 - a0_0)) + 1)))))))))) = some r := H
        have A13 := Aside0.mk A130
        clear A130
        by_cases c14 : (Int.tmod (wrap64 (t346)) 4) = 0
        · rw [if_pos c14] at H
          have c14b0 : ((Int.tmod (wrap64 (t346)) 4) == 0) = true := beq_iff_eq.mpr c14
          have c14b1 : ((Int.tmod (wrap64 (t346)) 4) != 0) = false := bne_eq_false_iff_eq.mpr c14
          clear c14
          replace H := Option.bind_eq_some_iff.mp H
          obtain ⟨t347, A150, H⟩ := H
          replace H : (if (wrap64 ((wrap64 (a0_1 - a0_0)) + 1)) = 0 then (none) else (some (wrap64 (a0_0 + (Int.tmod (Int.tmod (wrap64 (t347)) 3) (wrap64 ((wrap64 (a0_1 - a0_0)) + 1))))))) = some r := H
          have A15 := Aside0.mk A150
          clear A150
          by_cases c16 : (wrap64 ((wrap64 (a0_1 - a0_0)) + 1)) = 0
          · rw [if_pos c16] at H
            exact absurd H (by simp)
          · rw [if_neg c16] at H
            have c16b0 : ((wrap64 ((wrap64 (a0_1 - a0_0)) + 1)) == 0) = false := beq_eq_false_iff_ne.mpr c16
            have c16b1 : ((wrap64 ((wrap64 (a0_1 - a0_0)) + 1)) != 0) = true := bne_iff_ne.mpr c16
            obtain rfl := Option.some.inj H
            obtain ⟨hcz17_0, hcz17_1, hfz17_0, hfz17_1⟩ := sqc2 BK343
            go_wp2_with (first | (go_at_call 33; (with_reducible refine (laws_at.calls _ _ l1 (wrap64 (a2 + 5)) t346 _ ?side1 ?side2 A13.out).mono ?_); (case side1 => repeat (first | exact (Kd.C_below HR1.out HB.out) | (with_reducible refine Kd.C_alloc ?_ _) | (with_reducible refine Kd.C_drewN ?_ _) | (with_reducible refine Kd.C_drew ?_))); (case side2 => exact HC1.out); rintro e w' ⟨rfl, ⟨nd, rfl⟩⟩; (try first | exact ⟨rfl, _, World.drewN_drewN _ _ _⟩ | exact ⟨rfl, _, Eq.trans (World.drewN_drewN _ _ _) (congrArg (World.drewN _) (Nat.add_assoc _ _ _))⟩)) | (go_at_call 33; (with_reducible refine (laws_at.calls _ _ l1 a2 t347 _ ?side1 ?side2 A15.out).mono ?_); (case side1 => repeat (first | exact (Kd.C_below HR1.out (by repeat (first | (with_reducible first | exact HB.out | apply below_alloc | apply pw_below_drewN | apply below_drew1 | refine below_set ?_ GE343.out) | exact HB.out))) | (with_reducible refine Kd.C_alloc ?_ _) | (with_reducible refine Kd.C_drewN ?_ _) | (with_reducible refine Kd.C_drew ?_))); (case side2 => exact HC1.out); rintro e w' ⟨rfl, ⟨nd, rfl⟩⟩; (try first | exact ⟨rfl, _, World.drewN_drewN _ _ _⟩ | exact ⟨rfl, _, Eq.trans (World.drewN_drewN _ _ _) (congrArg (World.drewN _) (Nat.add_assoc _ _ _))⟩)))
            repeat (go_quiet (first | (go_at_call 33; (with_reducible refine (laws_at.calls _ _ l1 (wrap64 (a2 + 5)) t346 _ ?side1 ?side2 A13.out).mono ?_); (case side1 => repeat (first | exact (Kd.C_below HR1.out HB.out) | (with_reducible refine Kd.C_alloc ?_ _) | (with_reducible refine Kd.C_drewN ?_ _) | (with_reducible refine Kd.C_drew ?_))); (case side2 => exact HC1.out); rintro e w' ⟨rfl, ⟨nd, rfl⟩⟩; (try first | exact ⟨rfl, _, World.drewN_drewN _ _ _⟩ | exact ⟨rfl, _, Eq.trans (World.drewN_drewN _ _ _) (congrArg (World.drewN _) (Nat.add_assoc _ _ _))⟩)) | (go_at_call 33; (with_reducible refine (laws_at.calls _ _ l1 a2 t347 _ ?side1 ?side2 A15.out).mono ?_); (case side1 => repeat (first | exact (Kd.C_below HR1.out (by repeat (first | (with_reducible first | exact HB.out | apply below_alloc | apply pw_below_drewN | apply below_drew1 | refine below_set ?_ GE343.out) | exact HB.out))) | (with_reducible refine Kd.C_alloc ?_ _) | (with_reducible refine Kd.C_drewN ?_ _) | (with_reducible refine Kd.C_drew ?_))); (case side2 => exact HC1.out); rintro e w' ⟨rfl, ⟨nd, rfl⟩⟩; (try first | exact ⟨rfl, _, World.drewN_drewN _ _ _⟩ | exact ⟨rfl, _, Eq.trans (World.drewN_drewN _ _ _) (congrArg (World.drewN _) (Nat.add_assoc _ _ _))⟩))); try go_wp2_with (first | (go_at_call 33; (with_reducible refine (laws_at.calls _ _ l1 (wrap64 (a2 + 5)) t346 _ ?side1 ?side2 A13.out).mono ?_); (case side1 => repeat (first | exact (Kd.C_below HR1.out HB.out) | (with_reducible refine Kd.C_alloc ?_ _) | (with_reducible refine Kd.C_drewN ?_ _) | (with_reducible refine Kd.C_drew ?_))); (case side2 => exact HC1.out); rintro e w' ⟨rfl, ⟨nd, rfl⟩⟩; (try first | exact ⟨rfl, _, World.drewN_drewN _ _ _⟩ | exact ⟨rfl, _, Eq.trans (World.drewN_drewN _ _ _) (congrArg (World.drewN _) (Nat.add_assoc _ _ _))⟩)) | (go_at_call 33; (with_reducible refine (laws_at.calls _ _ l1 a2 t347 _ ?side1 ?side2 A15.out).mono ?_); (case side1 => repeat (first | exact (Kd.C_below HR1.out (by repeat (first | (with_reducible first | exact HB.out | apply below_alloc | apply pw_below_drewN | apply below_drew1 | refine below_set ?_ GE343.out) | exact HB.out))) | (with_reducible refine Kd.C_alloc ?_ _) | (with_reducible refine Kd.C_drewN ?_ _) | (with_reducible refine Kd.C_drew ?_))); (case side2 => exact HC1.out); rintro e w' ⟨rfl, ⟨nd, rfl⟩⟩; (try first | exact ⟨rfl, _, World.drewN_drewN _ _ _⟩ | exact ⟨rfl, _, Eq.trans (World.drewN_drewN _ _ _) (congrArg (World.drewN _) (Nat.add_assoc _ _ _))⟩))))
            go_ret
            exact sqe HB
        · rw [if_neg c14] at H
          have c14b0 : ((Int.tmod (wrap64 (t346)) 4) == 0) = false := beq_eq_false_iff_ne.mpr c14
          have c14b1 : ((Int.tmod (wrap64 (t346)) 4) != 0) = true := bne_iff_ne.mpr c14
          by_cases c18 : (Int.tmod (wrap64 (t346)) 4) = 1
          · rw [if_pos c18] at H
            have c18b0 : ((Int.tmod (wrap64 (t346)) 4) == 1) = true := beq_iff_eq.mpr c18
            have c18b1 : ((Int.tmod (wrap64 (t346)) 4) != 1) = false := bne_eq_false_iff_eq.mpr c18
            clear c18
            replace H := Option.bind_eq_some_iff.mp H
            obtain ⟨t348, A190, H⟩ := H
            replace H : (if (wrap64 ((wrap64 (a0_1 - a0_0)) + 1)) = 0 then (none) else (some (wrap64 (a0_1 - (Int.tmod (Int.tmod (wrap64 (t348)) 3) (wrap64 ((wrap64 (a0_1 - a0_0)) + 1))))))) = some r := H
            have A19 := Aside0.mk A190
            clear A190
            by_cases c20 : (wrap64 ((wrap64 (a0_1 - a0_0)) + 1)) = 0
            · rw [if_pos c20] at H
              exact absurd H (by simp)
            · rw [if_neg c20] at H
              have c20b0 : ((wrap64 ((wrap64 (a0_1 - a0_0)) + 1)) == 0) = false := beq_eq_false_iff_ne.mpr c20
              have c20b1 : ((wrap64 ((wrap64 (a0_1 - a0_0)) + 1)) != 0) = true := bne_iff_ne.mpr c20
              obtain rfl := Option.some.inj H
              obtain ⟨hcz21_0, hcz21_1, hfz21_0, hfz21_1⟩ := sqc2 BK343
              go_wp2_with (first | (go_at_call 33; (with_reducible refine (laws_at.calls _ _ l1 (wrap64 (a2 + 5)) t346 _ ?side1 ?side2 A13.out).mono ?_); (case side1 => repeat (first | exact (Kd.C_below HR1.out HB.out) | (with_reducible refine Kd.C_alloc ?_ _) | (with_reducible refine Kd.C_drewN ?_ _) | (with_reducible refine Kd.C_drew ?_))); (case side2 => exact HC1.out); rintro e w' ⟨rfl, ⟨nd, rfl⟩⟩; (try first | exact ⟨rfl, _, World.drewN_drewN _ _ _⟩ | exact ⟨rfl, _, Eq.trans (World.drewN_drewN _ _ _) (congrArg (World.drewN _) (Nat.add_assoc _ _ _))⟩)) | (go_at_call 33; (with_reducible refine (laws_at.calls _ _ l1 a2 t348 _ ?side1 ?side2 A19.out).mono ?_); (case side1 => repeat (first | exact (Kd.C_below HR1.out (by repeat (first | (with_reducible first | exact HB.out | apply below_alloc | apply pw_below_drewN | apply below_drew1 | refine below_set ?_ GE343.out) | exact HB.out))) | (with_reducible refine Kd.C_alloc ?_ _) | (with_reducible refine Kd.C_drewN ?_ _) | (with_reducible refine Kd.C_drew ?_))); (case side2 => exact HC1.out); rintro e w' ⟨rfl, ⟨nd, rfl⟩⟩; (try first | exact ⟨rfl, _, World.drewN_drewN _ _ _⟩ | exact ⟨rfl, _, Eq.trans (World.drewN_drewN _ _ _) (congrArg (World.drewN _) (Nat.add_assoc _ _ _))⟩)))
              repeat (go_quiet (first | (go_at_call 33; (with_reducible refine (laws_at.calls _ _ l1 (wrap64 (a2 + 5)) t346 _ ?side1 ?side2 A13.out).mono ?_); (case side1 => repeat (first | exact (Kd.C_below HR1.out HB.out) | (with_reducible refine Kd.C_alloc ?_ _) | (with_reducible refine Kd.C_drewN ?_ _) | (with_reducible refine Kd.C_drew ?_))); (case side2 => exact HC1.out); rintro e w' ⟨rfl, ⟨nd, rfl⟩⟩; (try first | exact ⟨rfl, _, World.drewN_drewN _ _ _⟩ | exact ⟨rfl, _, Eq.trans (World.drewN_drewN _ _ _) (congrArg (World.drewN _) (Nat.add_assoc _ _ _))⟩)) | (go_at_call 33; (with_reducible refine (laws_at.calls _ _ l1 a2 t348 _ ?side1 ?side2 A19.out).mono ?_); (case side1 => repeat (first | exact (Kd.C_below HR1.out (by repeat (first | (with_reducible first | exact HB.out | apply below_alloc | apply pw_below_drewN | apply below_drew1 | refine below_set ?_ GE343.out) | exact HB.out))) | (with_reducible refine Kd.C_alloc ?_ _) | (with_reducible refine Kd.C_drewN ?_ _) | (with_reducible refine Kd.C_drew ?_))); (case side2 => exact HC1.out); rintro e w' ⟨rfl, ⟨nd, rfl⟩⟩; (try first | exact ⟨rfl, _, World.drewN_drewN _ _ _⟩ | exact ⟨rfl, _, Eq.trans (World.drewN_drewN _ _ _) (congrArg (World.drewN _) (Nat.add_assoc _ _ _))⟩))); try go_wp2_with (first | (go_at_call 33; (with_reducible refine (laws_at.calls _ _ l1 (wrap64 (a2 + 5)) t346 _ ?side1 ?side2 A13.out).mono ?_); (case side1 => repeat (first | exact (Kd.C_below HR1.out HB.out) | (with_reducible refine Kd.C_alloc ?_ _) | (with_reducible refine Kd.C_drewN ?_ _) | (with_reducible refine Kd.C_drew ?_))); (case side2 => exact HC1.out); rintro e w' ⟨rfl, ⟨nd, rfl⟩⟩; (try first | exact ⟨rfl, _, World.drewN_drewN _ _ _⟩ | exact ⟨rfl, _, Eq.trans (World.drewN_drewN _ _ _) (congrArg (World.drewN _) (Nat.add_assoc _ _ _))⟩)) | (go_at_call 33; (with_reducible refine (laws_at.calls _ _ l1 a2 t348 _ ?side1 ?side2 A19.out).mono ?_); (case side1 => repeat (first | exact (Kd.C_below HR1.out (by repeat (first | (with_reducible first | exact HB.out | apply below_alloc | apply pw_below_drewN | apply below_drew1 | refine below_set ?_ GE343.out) | exact HB.out))) | (with_reducible refine Kd.C_alloc ?_ _) | (with_reducible refine Kd.C_drewN ?_ _) | (with_reducible refine Kd.C_drew ?_))); (case side2 => exact HC1.out); rintro e w' ⟨rfl, ⟨nd, rfl⟩⟩; (try first | exact ⟨rfl, _, World.drewN_drewN _ _ _⟩ | exact ⟨rfl, _, Eq.trans (World.drewN_drewN _ _ _) (congrArg (World.drewN _) (Nat.add_assoc _ _ _))⟩))))
              go_ret
              exact sqe HB
          · rw [if_neg c18] at H
            have c18b0 : ((Int.tmod (wrap64 (t346)) 4) == 1) = false := beq_eq_false_iff_ne.mpr c18
            have c18b1 : ((Int.tmod (wrap64 (t346)) 4) != 1) = true := bne_iff_ne.mpr c18
            replace H := Option.bind_eq_some_iff.mp H
            obtain ⟨t349, A220, H⟩ := H
            replace H : (if (wrap64 ((wrap64 (a0_1 - a0_0)) + 1)) = 0 then (none) else (some (wrap64 (a0_0 + (Int.tmod t349 (wrap64 ((wrap64 (a0_1 - a0_0)) + 1))))))) = some r := H
            have A22 := Aside0.mk A220
            clear A220
            by_cases c23 : (wrap64 ((wrap64 (a0_1 - a0_0)) + 1)) = 0
            · rw [if_pos c23] at H
              exact absurd H (by simp)
            · rw [if_neg c23] at H
              have c23b0 : ((wrap64 ((wrap64 (a0_1 - a0_0)) + 1)) == 0) = false := beq_eq_false_iff_ne.mpr c23
              have c23b1 : ((wrap64 ((wrap64 (a0_1 - a0_0)) + 1)) != 0) = true := bne_iff_ne.mpr c23
              obtain rfl := Option.some.inj H
              obtain ⟨hcz24_0, hcz24_1, hfz24_0, hfz24_1⟩ := sqc2 BK343
              go_wp2_with (first | (go_at_call 33; (with_reducible refine (laws_at.calls _ _ l1 (wrap64 (a2 + 5)) t346 _ ?side1 ?side2 A13.out).mono ?_); (case side1 => repeat (first | exact (Kd.C_below HR1.out HB.out) | (with_reducible refine Kd.C_alloc ?_ _) | (with_reducible refine Kd.C_drewN ?_ _) | (with_reducible refine Kd.C_drew ?_))); (case side2 => exact HC1.out); rintro e w' ⟨rfl, ⟨nd, rfl⟩⟩; (try first | exact ⟨rfl, _, World.drewN_drewN _ _ _⟩ | exact ⟨rfl, _, Eq.trans (World.drewN_drewN _ _ _) (congrArg (World.drewN _) (Nat.add_assoc _ _ _))⟩)) | (go_at_call 55; (with_reducible refine (laws_wide.calls _ _ l1 a2 t349 _ ?side1 ?side2 A22.out).mono ?_); (case side1 => repeat (first | exact (Kd.C_below HR1.out (by repeat (first | (with_reducible first | exact HB.out | apply below_alloc | apply pw_below_drewN | apply below_drew1 | refine below_set ?_ GE343.out) | exact HB.out))) | (with_reducible refine Kd.C_alloc ?_ _) | (with_reducible refine Kd.C_drewN ?_ _) | (with_reducible refine Kd.C_drew ?_))); (case side2 => exact HC1.out); rintro e w' ⟨rfl, ⟨nd, rfl⟩⟩; (try first | exact ⟨rfl, _, World.drewN_drewN _ _ _⟩ | exact ⟨rfl, _, Eq.trans (World.drewN_drewN _ _ _) (congrArg (World.drewN _) (Nat.add_assoc _ _ _))⟩)))
              repeat (go_quiet (first | (go_at_call 33; (with_reducible refine (laws_at.calls _ _ l1 (wrap64 (a2 + 5)) t346 _ ?side1 ?side2 A13.out).mono ?_); (case side1 => repeat (first | exact (Kd.C_below HR1.out HB.out) | (with_reducible refine Kd.C_alloc ?_ _) | (with_reducible refine Kd.C_drewN ?_ _) | (with_reducible refine Kd.C_drew ?_))); (case side2 => exact HC1.out); rintro e w' ⟨rfl, ⟨nd, rfl⟩⟩; (try first | exact ⟨rfl, _, World.drewN_drewN _ _ _⟩ | exact ⟨rfl, _, Eq.trans (World.drewN_drewN _ _ _) (congrArg (World.drewN _) (Nat.add_assoc _ _ _))⟩)) | (go_at_call 55; (with_reducible refine (laws_wide.calls _ _ l1 a2 t349 _ ?side1 ?side2 A22.out).mono ?_); (case side1 => repeat (first | exact (Kd.C_below HR1.out (by repeat (first | (with_reducible first | exact HB.out | apply below_alloc | apply pw_below_drewN | apply below_drew1 | refine below_set ?_ GE343.out) | exact HB.out))) | (with_reducible refine Kd.C_alloc ?_ _) | (with_reducible refine Kd.C_drewN ?_ _) | (with_reducible refine Kd.C_drew ?_))); (case side2 => exact HC1.out); rintro e w' ⟨rfl, ⟨nd, rfl⟩⟩; (try first | exact ⟨rfl, _, World.drewN_drewN _ _ _⟩ | exact ⟨rfl, _, Eq.trans (World.drewN_drewN _ _ _) (congrArg (World.drewN _) (Nat.add_assoc _ _ _))⟩))); try go_wp2_with (first | (go_at_call 33; (with_reducible refine (laws_at.calls _ _ l1 (wrap64 (a2 + 5)) t346 _ ?side1 ?side2 A13.out).mono ?_); (case side1 => repeat (first | exact (Kd.C_below HR1.out HB.out) | (with_reducible refine Kd.C_alloc ?_ _) | (with_reducible refine Kd.C_drewN ?_ _) | (with_reducible refine Kd.C_drew ?_))); (case side2 => exact HC1.out); rintro e w' ⟨rfl, ⟨nd, rfl⟩⟩; (try first | exact ⟨rfl, _, World.drewN_drewN _ _ _⟩ | exact ⟨rfl, _, Eq.trans (World.drewN_drewN _ _ _) (congrArg (World.drewN _) (Nat.add_assoc _ _ _))⟩)) | (go_at_call 55; (with_reducible refine (laws_wide.calls _ _ l1 a2 t349 _ ?side1 ?side2 A22.out).mono ?_); (case side1 => repeat (first | exact (Kd.C_below HR1.out (by repeat (first | (with_reducible first | exact HB.out | apply below_alloc | apply pw_below_drewN | apply below_drew1 | refine below_set ?_ GE343.out) | exact HB.out))) | (with_reducible refine Kd.C_alloc ?_ _) | (with_reducible refine Kd.C_drewN ?_ _) | (with_reducible refine Kd.C_drew ?_))); (case side2 => exact HC1.out); rintro e w' ⟨rfl, ⟨nd, rfl⟩⟩; (try first | exact ⟨rfl, _, World.drewN_drewN _ _ _⟩ | exact ⟨rfl, _, Eq.trans (World.drewN_drewN _ _ _) (congrArg (World.drewN _) (Nat.add_assoc _ _ _))⟩))))
              go_ret
              exact sqe HB

end Go.Proofs.Ytkekcenlleebeaa.PFnValMake
